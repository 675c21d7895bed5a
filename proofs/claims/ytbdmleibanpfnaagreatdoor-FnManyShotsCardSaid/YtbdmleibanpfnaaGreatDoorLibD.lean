/-
  Slots and the function's own variables: what a machine's frame and an environment have in common.
-/
import Derived.Test.YtbdmleibanpfnaaGreatDoorLibC
import Derived.Tactics
import Derived.Orders
import Derived.Test.YtbdmleibanpfnaaGreatDoorLibA
import Derived.Lib.ItoaNum
import Derived.Lib.Atoi
import Derived.Lib.Join
import Derived.ProofKit
set_option linter.all false
set_option maxRecDepth 100000
namespace Go.X1
variable [Nu]
abbrev Be := Nat → Option Nat
def SR (α : Al) (β : Be) (a : Act) (t : Nat) : S → Prop
  | .v x => Rep α (a.tmps.getD t undef) x
  | .p b o => ∃ k, β b = some k ∧ a.tmps.getD t undef = .pointer (some ⟨k, o, none⟩)
  | .pg g w b o => ∃ k, β b = some k ∧ (a.tmps.getD g undef = .bool w → a.tmps.getD t undef = .pointer (some ⟨k, o, none⟩))
inductive Lc where
  | s (t : Nat)
  | b (n : Nat)
/-- A variable of the function's own, in a block of its own. -/
def Row (α : Al) (w : World) (k n : Nat) (f : Nat → A) : Prop := ∃ cs el, w.heap[k]? = some (.cells cs el (0, 0)) ∧ n ≤ cs.size ∧ ∀ i, i < n → ∃ v, cs[i]? = some v ∧ v.oneCell' = true ∧ Rep α v (f i)
structure SV (n0 nt : Nat) (V : Lc → E) (α : Al) (β : Be) (w : World) (a : Act) : Prop where
  defers : a.defers = []
  size : nt ≤ a.tmps.size
  slot : ∀ t, SR α β a t (eget (V (.s t)).tm t)
  base : ∀ b n, bget (V (.b b)).pb b = some n → ∃ k, β b = some k ∧ Row α w k n (cget (V (.b b)).cl b)
  own : ∀ b k, β b = some k → n0 ≤ k ∧ k < w.heap.size ∧ ∀ i L, α i = some L → L.blk ≠ k
  inj : ∀ b b' k, β b = some k → β b' = some k → b = b'
structure Grow (α : Al) (w : World) (α' : Al) (w' : World) : Prop where
  le : Le α α'
  new : ∀ b L, α' b = some L → α b = some L ∨ w.heap.size ≤ L.blk ∨ ∃ b0 L0, α b0 = some L0 ∧ L0.blk = L.blk
  fr : Fr α w w'
theorem Grow.refl (α : Al) (w : World) : Grow α w α w := ⟨.refl α, fun _ _ e => .inl e, .refl α w⟩
section
variable {P : Program} {W0 : World} {n0 nt : Nat} {V : Lc → E} {α α' : Al} {β : Be} {w w' : World} {a : Act}
theorem Step.grow {h h' : H} (s : Step W0 α w h α' w' h') : Grow α w α' w' :=
  ⟨s.ext.le, fun b L e => (s.ext.new b L e).imp id fun h => h.2.2, s.fr⟩
theorem Row.mono (hl : Le α α') {k n : Nat} {f : Nat → A} (hw : w'.heap[k]? = w.heap[k]?) (h : Row α w k n f) : Row α' w' k n f := by
  obtain ⟨cs, el, h1, h2, h3⟩ := h
  exact ⟨cs, el, by rw [hw]; exact h1, h2, fun i hi => let ⟨v, q1, q2, q3⟩ := h3 i hi; ⟨v, q1, q2, q3.mono hl⟩⟩
theorem SR.mono (hl : Le α α') {t : Nat} {s : S} (h : SR α β a t s) : SR α' β a t s := by
  cases s with
  | v x => exact Rep.mono hl h
  | p b o => exact h
  | pg g w b o => exact h
theorem SV.grow (hs : SV n0 nt V α β w a) (g : Grow α w α' w') : SV n0 nt V α' β w' a where
  defers := hs.defers
  size := hs.size
  slot t := (hs.slot t).mono g.le
  base b n hb := by
    obtain ⟨k, h1, h2⟩ := hs.base b n hb
    obtain ⟨_, o2, o3⟩ := hs.own b k h1
    exact ⟨k, h1, h2.mono g.le (g.fr.keep k o2 fun i L e => o3 i L e)⟩
  own b k hb := by
    obtain ⟨o1, o2, o3⟩ := hs.own b k hb
    refine ⟨o1, Nat.lt_of_lt_of_le o2 g.fr.size, fun i L e => ?_⟩
    rcases g.new i L e with h | h | ⟨b0, L0, h1, h2⟩
    · exact o3 i L h
    · omega
    · rw [← h2]; exact o3 b0 L0 h1
  inj := hs.inj
def upd (V : Lc → E) (d : Option Nat) (b : Option Nat) (e : E) : Lc → E
  | .s t => if d = some t then e else V (.s t)
  | .b n => if b = some n then e else V (.b n)
theorem put_getD {d t : Nat} {v : Value} (hd : d < a.tmps.size) : (a.put (some d) v).tmps.getD t undef = if d = t then v else a.tmps.getD t undef := by
  simp only [Act.put, Array.getD_eq_getD_getElem?]
  by_cases h : d = t
  · subst h
    rw [if_pos rfl, Array.getElem?_setIfInBounds_self_of_lt hd]
    rfl
  · rw [if_neg h, Array.getElem?_setIfInBounds_ne h]
/-- A slot written. -/
theorem SV.put (hs : SV n0 nt V α β w a) {d : Option Nat} {v : Value} {env' : E} (hd : ∀ t, d = some t → t < nt)
    (hpg : ∀ t g u b o, eget (V (.s t)).tm t = .pg g u b o → d ≠ some g) (hv : ∀ t, d = some t → SR α β (a.put d v) t (eget env'.tm t)) : SV n0 nt (upd V d none env') α β w (a.put d v) where
  defers := by cases d <;> exact hs.defers
  size := by
    cases d with
    | none => exact hs.size
    | some d => simp [Act.put, hs.size]
  slot t := by
    show SR α β (a.put d v) t (eget (upd V d none env' (.s t)).tm t)
    by_cases h : d = some t
    · rw [show upd V d none env' (.s t) = env' from if_pos h]
      exact hv t h
    · rw [show upd V d none env' (.s t) = V (.s t) from if_neg h]
      have hst := hs.slot t
      cases d with
      | none => exact hst
      | some d =>
        have hdt : d ≠ t := fun e => h (by rw [e])
        have hsz : d < a.tmps.size := Nat.lt_of_lt_of_le (hd d rfl) hs.size
        cases hq : eget (V (.s t)).tm t with
        | v x =>
          rw [hq] at hst
          show Rep α ((a.put (some d) v).tmps.getD t undef) x
          rw [put_getD hsz, if_neg hdt]; exact hst
        | p b o =>
          rw [hq] at hst
          obtain ⟨k, q1, q2⟩ := hst
          exact ⟨k, q1, by rw [put_getD hsz, if_neg hdt]; exact q2⟩
        | pg g u b o =>
          rw [hq] at hst
          obtain ⟨k, q1, q2⟩ := hst
          have hdg : d ≠ g := fun e => hpg t g u b o hq (by rw [e])
          exact ⟨k, q1, fun e => by rw [put_getD hsz, if_neg hdt]; rw [put_getD hsz, if_neg hdg] at e; exact q2 e⟩
  base b n hb := hs.base b n hb
  own := hs.own
  inj := hs.inj
/-- Memory of ours is as it was. -/
theorem HR.other (hr : ∀ k, (∃ b L, α b = some L ∧ L.blk = k) → w'.heap[k]? = w.heap[k]?) (ha : Agree W0 w') (hsz : w.heap.size ≤ w'.heap.size) {h : H} (hh : HR W0 α w h) : HR W0 α w' h :=
  ⟨ha, hh.ro, hh.full, fun b L e => let ⟨q1, q2, q3⟩ := hh.dom b L e; ⟨q1, q2, Nat.lt_of_lt_of_le q3 hsz⟩, fun b L e => (hh.blk b L e).world (hr L.blk ⟨b, L, e, rfl⟩), hh.dis⟩
theorem HR.alloc {h : H} (hh : HR W0 α w h) (o : Obj) : HR W0 α (w.alloc o) h :=
  HR.other (w' := w.alloc o) (fun k ⟨b, L, e, hk⟩ => by
    have := (hh.dom b L e).2.2
    exact (agree_alloc w o).heap k (by omega)) (hh.agr.trans (agree_alloc w o)) (agree_alloc w o).size hh
theorem grow_alloc (α : Al) (w : World) (o : Obj) : Grow α w α (w.alloc o) := ⟨.refl α, fun _ _ e => .inl e, ⟨(agree_alloc w o).size, fun k hk _ => (agree_alloc w o).heap k hk, rfl, rfl⟩⟩
theorem HR.setRow {h : H} (hh : HR W0 α w h) {k : Nat} (cs : Array Value) (hk : W0.heap.size ≤ k) (hn : ∀ i L, α i = some L → L.blk ≠ k) : HR W0 α (w.setRow k cs) h :=
  HR.other (w' := w.setRow k cs) (fun c ⟨b, L, e, hc⟩ => setRow_other w k c cs (by rw [← hc]; exact hn b L e))
    ⟨by rw [setRow_size]; exact hh.agr.size, fun b hb => by rw [setRow_other w k b cs (by omega)]; exact hh.agr.heap b hb, hh.agr.os, hh.agr.out⟩ (by rw [setRow_size]; exact Nat.le_refl _) hh
theorem nth_lA : ∀ (l : List A) (i : Nat), nth (lA l) i = l[i]?.getD junk
  | [], _ => rfl
  | x :: l, 0 => rfl
  | x :: l, i + 1 => by rw [lA, nth_cnS, nth_lA l i]; rfl
/-- A variable of the function's own written. -/
theorem SV.store (hs : SV n0 nt V α β w a) {b k n q : Nat} {vs : List Value} {l : List A} {env' : E} {cs : Array Value} {el : TypeId} (hb : bget (V (.b b)).pb b = some n) (hk : β b = some k)
    (hc : w.heap[k]? = some (.cells cs el (0, 0))) (hrep : RepL α vs (lA l)) (hlen : vs.length = l.length) (hone : ∀ v ∈ vs, v.oneCell' = true) (hq : q + vs.length ≤ n)
    (he1 : bget env'.pb b = some n) (he2 : ∀ i, cget env'.cl b i = if q ≤ i ∧ i < q + l.length then l[i - q]?.getD junk else cget (V (.b b)).cl b i) :
    SV n0 nt (upd V none (some b) env') α β (w.setRow k (cs.toList.take q ++ vs ++ cs.toList.drop (q + vs.length)).toArray) a := by
  obtain ⟨k', hk', cs', el', g1, g2, g3⟩ := hs.base b n hb
  rw [hk] at hk'
  cases hk'
  rw [hc] at g1
  cases g1
  obtain ⟨o1, o2, o3⟩ := hs.own b k hk
  have hh := setRow_heap w k cs (cs.toList.take q ++ vs ++ cs.toList.drop (q + vs.length)).toArray el (0, 0) hc
  refine ⟨hs.defers, hs.size, hs.slot, fun b' n' hb' => ?_, fun b' k' hb' => ?_, hs.inj⟩
  · by_cases hbb : b = b'
    · subst hbb
      rw [show upd V none (some b) env' (.b b) = env' from if_pos rfl] at hb' ⊢
      rw [he1] at hb'
      cases hb'
      refine ⟨k, hk, _, el, hh, by simp; omega, fun i hi => ?_⟩
      have hsp := splice_get cs.toList vs q (by simp; omega) i
      have hsp' : (cs.toList.take q ++ vs ++ cs.toList.drop (q + vs.length)).toArray[i]? = (cs.toList.take q ++ vs ++ cs.toList.drop (q + vs.length))[i]? := by simp
      rw [hsp', hsp, he2 i]
      by_cases hi2 : q ≤ i ∧ i < q + l.length
      · rw [if_pos hi2, if_pos (by omega)]
        have hlt : i - q < vs.length := by omega
        have hlt2 : i - q < l.length := by omega
        refine ⟨vs[i - q], List.getElem?_eq_getElem hlt, hone _ (List.getElem_mem hlt), ?_⟩
        have := hrep.get _ _ (List.getElem?_eq_getElem hlt)
        rw [nth_lA] at this
        exact this
      · rw [if_neg hi2, if_neg (by omega)]
        obtain ⟨v, q1, q2, q3⟩ := g3 i hi
        exact ⟨v, by simpa using q1, q2, q3⟩
    · have e : upd V none (some b) env' (.b b') = V (.b b') := if_neg fun e => hbb (by cases e; rfl)
      rw [e] at hb' ⊢
      obtain ⟨k', q1, q2⟩ := hs.base b' n' hb'
      refine ⟨k', q1, q2.mono (.refl α) (setRow_other w k k' _ fun e => hbb ?_)⟩
      subst e
      exact hs.inj b b' _ hk q1
  · obtain ⟨p1, p2, p3⟩ := hs.own b' k' hb'
    exact ⟨p1, by rw [setRow_size]; exact p2, p3⟩
/-- A new variable of the function's own. -/
theorem SV.mk' (hs : SV n0 nt V α β w a) (hw : n0 ≤ w.heap.size) (hdom : ∀ i L, α i = some L → L.blk < w.heap.size) {d : Nat} {vs : List Value} {l : List A} {env' : E} {el : TypeId} (hd : d < nt) (hβ : β d = none)
    (hrep : ∀ i, i < l.length → ∃ v, vs[i]? = some v ∧ v.oneCell' = true ∧ Rep α v (l[i]?.getD junk)) (hlen : l.length ≤ vs.length)
    (hpg : ∀ t g u b o, eget (V (.s t)).tm t = .pg g u b o → g ≠ d)
    (he0 : eget env'.tm d = .p d 0) (he1 : bget env'.pb d = some l.length) (he2 : ∀ i, i < l.length → cget env'.cl d i = l[i]?.getD junk) :
    SV n0 nt (upd V (some d) (some d) env') α (fun b => if b = d then some w.heap.size else β b) (w.alloc (.cells ⟨vs⟩ el (0, 0))) (a.put (some d) (.pointer (some ⟨w.heap.size, 0, none⟩))) := by
  have hsz : d < a.tmps.size := Nat.lt_of_lt_of_le (hd) hs.size
  have hβ' : ∀ b k, β b = some k → (fun b => if b = d then some w.heap.size else β b) b = some k := fun b k e => by
    show (if b = d then _ else β b) = _
    rw [if_neg (fun q => by subst q; rw [hβ] at e; cases e)]; exact e
  have hA := agree_alloc w (.cells ⟨vs⟩ el (0, 0))
  refine ⟨hs.defers, by simp [Act.put, hs.size], fun t => ?_, fun b n hb => ?_, fun b k hb => ?_, fun b b' k h1 h2 => ?_⟩
  · by_cases h : d = t
    · subst h
      rw [show upd V (some d) (some d) env' (.s d) = env' from if_pos rfl, he0]
      exact ⟨w.heap.size, if_pos rfl, by rw [put_getD hsz, if_pos rfl]⟩
    · rw [show upd V (some d) (some d) env' (.s t) = V (.s t) from if_neg fun e => h (by cases e; rfl)]
      have hst := hs.slot t
      cases hq : eget (V (.s t)).tm t with
      | v x =>
        rw [hq] at hst
        show Rep α ((a.put (some d) _).tmps.getD t undef) x
        rw [put_getD hsz, if_neg h]; exact hst
      | p b o =>
        rw [hq] at hst
        obtain ⟨k, q1, q2⟩ := hst
        exact ⟨k, hβ' b k q1, by rw [put_getD hsz, if_neg h]; exact q2⟩
      | pg g u b o =>
        rw [hq] at hst
        obtain ⟨k, q1, q2⟩ := hst
        have hdg : d ≠ g := fun e => hpg t g u b o hq e.symm
        exact ⟨k, hβ' b k q1, fun e => by rw [put_getD hsz, if_neg h]; rw [put_getD hsz, if_neg hdg] at e; exact q2 e⟩
  · by_cases h : d = b
    · subst h
      rw [show upd V (some d) (some d) env' (.b d) = env' from if_pos rfl] at hb ⊢
      rw [he1] at hb
      cases hb
      refine ⟨w.heap.size, if_pos rfl, _, el, alloc_heap w _, by simpa using hlen, fun i hi => ?_⟩
      obtain ⟨v, q1, q2, q3⟩ := hrep i hi
      exact ⟨v, by simpa using q1, q2, by rw [he2 i hi]; exact q3⟩
    · have e : upd V (some d) (some d) env' (.b b) = V (.b b) := if_neg fun e => h (by cases e; rfl)
      rw [e] at hb ⊢
      obtain ⟨k, q1, q2⟩ := hs.base b n hb
      exact ⟨k, hβ' b k q1, q2.mono (.refl α) (hA.heap k (hs.own b k q1).2.1)⟩
  · rw [alloc_size]
    by_cases h : b = d
    · have : some w.heap.size = some k := by rw [← hb]; exact (if_pos h).symm
      cases this
      exact ⟨hw, by omega, fun i L e => by have := hdom i L e; omega⟩
    · have hb : β b = some k := by rw [← hb]; exact (if_neg h).symm
      obtain ⟨p1, p2, p3⟩ := hs.own b k hb
      exact ⟨p1, by omega, p3⟩
  · by_cases e1 : b = d <;> by_cases e2 : b' = d
    · rw [e1, e2]
    · have h1 : some w.heap.size = some k := by rw [← h1]; exact (if_pos e1).symm
      have h2 : β b' = some k := by rw [← h2]; exact (if_neg e2).symm
      cases h1
      have := (hs.own b' _ h2).2.1
      omega
    · have h1 : β b = some k := by rw [← h1]; exact (if_neg e1).symm
      have h2 : some w.heap.size = some k := by rw [← h2]; exact (if_pos e2).symm
      cases h2
      have := (hs.own b _ h1).2.1
      omega
    · have h1 : β b = some k := by rw [← h1]; exact (if_neg e1).symm
      have h2 : β b' = some k := by rw [← h2]; exact (if_neg e2).symm
      exact hs.inj b b' k h1 h2
theorem Step.alloc {α0 : Al} {w0 : World} {h0 h : H} (s : Step W0 α0 w0 h0 α w h) (o : Obj) : Step W0 α0 w0 h0 α (w.alloc o) h :=
  s.trans ⟨s.hr.alloc o, .refl _ _ _, (grow_alloc α w o).fr, .refl _, fun _ _ _ => rfl⟩
theorem Step.setRow {α0 : Al} {w0 : World} {h0 h : H} (s : Step W0 α0 w0 h0 α w h) (hW : W0.heap.size ≤ w0.heap.size) {k : Nat} (cs : Array Value) (hk : w0.heap.size ≤ k) (hn : ∀ i L, α i = some L → L.blk ≠ k) : Step W0 α0 w0 h0 α (w.setRow k cs) h :=
  ⟨s.hr.setRow cs (by omega) hn, s.ext, ⟨by rw [setRow_size]; exact s.fr.size, fun c hc hc2 => (setRow_other w k c cs (by omega)).trans (s.fr.keep c hc hc2), s.fr.os, s.fr.out⟩, s.ro, s.un⟩
end
end Go.X1

set_option maxRecDepth 100000
namespace Go.X1
variable [Nu]
def GE (gu : Option (Nat × Bool)) (env : E) : Prop := ∀ g w, gu = some (g, w) → sval (eget env.tm g) = .bool w
def GN (gu : Option (Nat × Bool)) (env : E) : Prop := ∃ g w, gu = some (g, w) ∧ (sval (eget env.tm g) = .bool (!w) ∨ sval (eget env.tm g) = und)
def GV (gu : Option (Nat × Bool)) (a : Act) : Prop := ∀ g w, gu = some (g, w) → a.tmps.getD g undef = .bool w
def OpStep (P : Program) (gu : Option (Nat × Bool)) (o : Oper) (a : Act) (w : World) (N : Act → World → Prop) (Q : Exit → Act → World → Prop) : Prop :=
  (GV gu a → Oper.wp P o a w N Q) ∧ (¬ GV gu a → N (a.put o.dst undef) w)
def looks (gu : Option (Nat × Bool)) (o : Oper) : List Nat := opSlots o.op ++ match gu with | some (g, _) => [g] | none => []
def LA (V : Lc → E) (env : E) (ts : List Nat) : Prop := ∀ t ∈ ts, eget (V (.s t)).tm t = eget env.tm t
def BA (V : Lc → E) (env : E) (b : Nat) : Prop := bget (V (.b b)).pb b = bget env.pb b ∧ ∀ i, cget (V (.b b)).cl b i = cget env.cl b i
def wrB : Ac → Option Nat
  | .wr b => some b
  | _ => none
/-- What is left to do behind an operation on variables of the function's own. -/
def Pf (P : Program) (W0 : World) (n0 nt : Nat) (gu : Option (Nat × Bool)) (o : Oper) (env env' : E) (ac : Ac) : Prop :=
  ∀ (V : Lc → E) (α : Al) (β : Be) (w : World) (a : Act) (h : H), SV n0 nt V α β w a → n0 ≤ w.heap.size → HR W0 α w h → LA V env (looks gu o) → (∀ b, ac = .rd b → BA V env b) → (∀ b, ac = .wr b → o.dst = none → BA V env b) →
    (∀ t, o.dst = some t → t < nt) → (∀ g u, gu = some (g, u) → o.dst ≠ some g) → (∀ d, o.dst = some d → ac = .wr d → β d = none) → (∀ t g u b q, eget (V (.s t)).tm t = .pg g u b q → o.dst ≠ some g) →
    ∀ (N : Act → World → Prop) (Q : Exit → Act → World → Prop), (∀ β' w' a', (∀ α0 w0 h0 h, W0.heap.size ≤ w0.heap.size → w0.heap.size ≤ n0 → Step W0 α0 w0 h0 α w h → Step W0 α0 w0 h0 α w' h) → (∀ b k, β b = some k → β' b = some k) → (∀ b, β b = none → β' b ≠ none → o.dst = some b ∧ ac = .wr b) → SV n0 nt (upd V o.dst (wrB ac) env') α β' w' a' → N a' w') → OpStep P gu o a w N Q
/-- What an operation changes in the environment. -/
structure Ch (pv : List Nat) (gu : Option (Nat × Bool)) (o : Oper) (env env' : E) (ac : Ac) : Prop where
  slot : ∀ t, o.dst ≠ some t → eget env'.tm t = eget env.tm t
  base : ∀ b, ac ≠ .wr b → bget env'.pb b = bget env.pb b ∧ ∀ i, cget env'.cl b i = cget env.cl b i
  pg : ∀ t g u b q, eget env'.tm t = .pg g u b q → eget env.tm t = .pg g u b q ∨ gu = some (g, u)
  fre : ∀ d, o.dst = some d → ac = .wr d → hasN pv d = true ∧ fresh env d = true
  wr : ∀ b, ac = .wr b → o.dst = none ∨ o.dst = some b
section
variable {P : Program} {TT : List TI} {W0 : World} {n0 nt : Nat} {V : Lc → E} {α : Al} {β : Be} {w : World} {a : Act} {env env' : E} {gu : Option (Nat × Bool)} {o : Oper} {lf : Nat × A × H} {h : H} {k : K}
theorem eget_put (env : E) (d : Option Nat) (s : S) (t : Nat) : eget (put env d s).tm t = if d = some t then s else eget env.tm t := by
  cases d with
  | none => rw [if_neg (by simp)]; rfl
  | some d =>
    show (bif Nat.beq t d then s else eget env.tm t) = _
    rw [nat_beq]
    by_cases e : t = d
    · subst e; simp
    · rw [if_neg (fun q => e (by cases q; rfl))]; simp [e]
theorem put_cl (env : E) (d : Option Nat) (s : S) : (put env d s).cl = env.cl := by cases d <;> rfl
theorem put_pb (env : E) (d : Option Nat) (s : S) : (put env d s).pb = env.pb := by cases d <;> rfl
theorem ch_put {pv : List Nat} {s : S} {ac : Ac} (hs : ∀ g u b q, s = .pg g u b q → gu = some (g, u)) (hac : ∀ b, ac ≠ .wr b) : Ch pv gu o env (put env o.dst s) ac where
  slot t ht := by rw [eget_put, if_neg ht]
  base b _ := ⟨by rw [put_pb], fun i => by rw [put_cl]⟩
  pg t g u b q e := by
    rw [eget_put] at e
    by_cases ht : o.dst = some t
    · rw [if_pos ht] at e; exact .inr (hs g u b q e)
    · rw [if_neg ht] at e; exact .inl e
  fre d _ e := absurd e (hac d)
  wr b e := absurd e (hac b)
theorem sval_v {s : S} {x : A} (h : sval s = x) (hx : x ≠ .nl) : s = .v x := by
  cases s with
  | v y => exact congrArg S.v h
  | p b o => exact absurd h.symm hx
  | pg g u b o => exact absurd h.symm hx
theorem ge_gv (hs : SV n0 nt V α β w a) (hla : LA V env (looks gu o)) (h : GE gu env) : GV gu a := fun g u e => by
  subst e
  have h1 := hs.slot g
  rw [hla g (by simp [looks]), sval_v (h g u rfl) (by simp)] at h1
  exact rep_bool h1
theorem gn_gv (hs : SV n0 nt V α β w a) (hla : LA V env (looks gu o)) (h : GN gu env) : ¬ GV gu a := fun hv => by
  obtain ⟨g, u, rfl, h⟩ := h
  have h1 := hs.slot g
  have hg := hv g u rfl
  rw [hla g (by simp [looks])] at h1
  rcases h with h | h
  · rw [sval_v h (by simp)] at h1
    have h1 := rep_bool h1
    rw [hg] at h1
    cases u <;> cases h1
  · rw [sval_v h (by simp [und])] at h1
    have h1 : Rep α (a.tmps.getD g undef) (.nd 1 .nl) := h1
    rw [hg] at h1
    cases h1
theorem gsel_eq (g : A) (u : Bool) (v : A) : gsel g u v = v ∧ g = .bool u ∨ gsel g u v = und ∧ (g = .bool (!u) ∨ g = und) ∨ gsel g u v = .nl := by
  cases g with
  | bool t => cases t <;> cases u <;> simp [gsel, eqb]
  | nd t l => 
    cases l with
    | nl =>
      have key : gsel (.nd t .nl) u v = @Bool.rec (fun _ => A) junk und (Nat.beq t 1) := rfl
      cases hb : Nat.beq t 1
      · rw [hb] at key; exact .inr (.inr key)
      · rw [hb] at key
        have ht : t = 1 := beq hb
        subst ht
        exact .inr (.inl ⟨key, .inr rfl⟩)
    | _ => exact .inr (.inr rfl)
  | _ => exact .inr (.inr rfl)
theorem op_rep (hs : SV n0 nt V α β w a) (hla : LA V env (looks gu o)) {y : Operand} (hy : y ∈ o.op.operands) : Rep α (a.eval y) (val env y) := by
  cases y with
  | tmp t =>
    have h1 := hs.slot t
    rw [hla t (by simp only [looks, opSlots, List.mem_append, List.mem_filterMap]; exact .inl ⟨.tmp t, by simpa using hy, rfl⟩)] at h1
    show Rep α (a.tmps.getD t undef) (sval (eget env.tm t))
    cases hq : eget env.tm t with
    | v x => rw [hq] at h1; exact h1
    | _ => exact .unk _
  | const v => exact rep_cv α v
  | func f => exact .fn rfl .nil
  | global g => exact .unk _
/-- A pointer into a variable of the function's own, where the guard lets it by. -/
theorem ptr_rep (hs : SV n0 nt V α β w a) (hla : LA V env (looks gu o)) {x : Operand} (hx : x ∈ o.op.operands) {b q : Nat} (hp : ptrOf env gu x = some (b, q)) :
    ∃ k, β b = some k ∧ (GV gu a → a.eval x = .pointer (some ⟨k, q, none⟩)) := by
  cases x with
  | tmp t =>
    have h1 := hs.slot t
    rw [hla t (by simp only [looks, opSlots, List.mem_append, List.mem_filterMap]; exact .inl ⟨.tmp t, by simpa using hx, rfl⟩)] at h1
    simp only [ptrOf] at hp
    cases hq : eget env.tm t with
    | v x => rw [hq] at hp; cases hp
    | p b' o' =>
      rw [hq] at hp h1
      cases hp
      obtain ⟨k, q1, q2⟩ := h1
      exact ⟨k, q1, fun _ => q2⟩
    | pg g u b' o' =>
      rw [hq] at hp h1
      obtain ⟨k, q1, q2⟩ := h1
      cases gu with
      | none => cases hp
      | some gu =>
        obtain ⟨g', u'⟩ := gu
        simp only [nat_beq, Bool.cond_eq_ite] at hp
        split at hp
        · rename_i hc
          simp at hc
          obtain ⟨c1, c2⟩ := hc
          subst c1
          subst c2
          cases hp
          exact ⟨k, q1, fun hv => q2 (hv _ _ rfl)⟩
        · cases hp
  | _ => cases hp
theorem value_wp {v : Value} {N : Act → World → Prop} {Q : Exit → Act → World → Prop} {w' : World} (hr : (execOp a.eval o).run P w = .ok (.value v) w') (hn : N (a.put o.dst v) w') : Oper.wp P o a w N Q := by
  unfold Oper.wp
  rw [hr, Oper.upon_value]
  exact hn
theorem skip_wp {N : Act → World → Prop} {Q : Exit → Act → World → Prop} {w' : World} (hr : (execOp a.eval o).run P w = .ok .skip w') (hn : N (a.put o.dst undef) w') : Oper.wp P o a w N Q := by
  unfold Oper.wp
  rw [hr, Oper.upon_skip]
  exact hn
/-- What leaves the world alone. -/
theorem pf_val {ac : Ac} (hac : wrB ac = none)
    (hrun : ∀ V α β w a h, SV n0 nt V α β w a → HR W0 α w h → LA V env (looks gu o) → (∀ b, ac = .rd b → BA V env b) → GV gu a → ∃ v, (execOp a.eval o).run P w = .ok (.value v) w ∧ ∀ t, o.dst = some t → (∀ g u, gu = some (g, u) → t ≠ g) → t < a.tmps.size → SR α β (a.put o.dst v) t (eget env'.tm t))
    (hno : ∀ V α β w a h, SV n0 nt V α β w a → HR W0 α w h → LA V env (looks gu o) → ¬ GV gu a → ∀ t, o.dst = some t → (∀ g u, gu = some (g, u) → t ≠ g) → t < a.tmps.size → SR α β (a.put o.dst undef) t (eget env'.tm t)) : Pf P W0 n0 nt gu o env env' ac := by
  intro V α β w a h hs _ hr hla hba _ hd hgd _ hpg N Q hn
  have hsz : ∀ t, o.dst = some t → t < a.tmps.size := fun t e => Nat.lt_of_lt_of_le (hd t e) hs.size
  have hgd' : ∀ t, o.dst = some t → ∀ g u, gu = some (g, u) → t ≠ g := fun t e g u e2 e3 => hgd g u e2 (by rw [e, e3])
  have hpg' : ∀ t g u b q, eget (V (.s t)).tm t = .pg g u b q → o.dst ≠ some g := hpg
  rw [hac] at hn
  refine ⟨fun hv => ?_, fun hv => ?_⟩
  · obtain ⟨v, q1, q2⟩ := hrun V α β w a h hs hr hla hba hv
    exact value_wp q1 (hn β w _ (fun _ _ _ _ _ _ s => s) (fun _ _ e => e) (fun b e1 e2 => absurd e1 e2) (hs.put hd hpg' fun t e => q2 t e (hgd' t e) (hsz t e)))
  · exact hn β w _ (fun _ _ _ _ _ _ s => s) (fun _ _ e => e) (fun b e1 e2 => absurd e1 e2) (hs.put hd hpg' fun t e => hno V α β w a h hs hr hla hv t e (hgd' t e) (hsz t e))
theorem put_self {d : Option Nat} {t : Nat} {v : Value} (e : d = some t) (ht : t < a.tmps.size) : (a.put d v).tmps.getD t undef = v := by
  subst e; rw [put_getD ht, if_pos rfl]
theorem put_other {d : Option Nat} {t g : Nat} {v : Value} (e : d = some t) (ht : t < a.tmps.size) (hg : t ≠ g) : (a.put d v).tmps.getD g undef = a.tmps.getD g undef := by
  subst e; rw [put_getD ht, if_neg hg]
theorem pf_skip {ac : Ac} (hac : wrB ac = none) (hg : GN gu env) : Pf P W0 n0 nt gu o env (put env o.dst (.v und)) ac :=
  pf_val hac (fun V α β w a h hs _ hla _ hv => absurd hv (gn_gv hs hla hg)) fun V α β w a h hs _ hla _ t e _ ht => by
    rw [eget_put, if_pos e]
    show Rep α _ und
    rw [put_self e ht]; exact .tup .nil
/-- A value that the guard lets by. -/
theorem putV_rep {x : A} {t : Nat} {v : Value} (hs : SV n0 nt V α β w a) (hla : LA V env (looks gu o)) (e : o.dst = some t) (ht : t < a.tmps.size) (h1 : GV gu a → Rep α v x) (h2 : ¬ GV gu a → v = undef) : SR α β (a.put o.dst v) t (eget (putV gu o.dst env x).tm t) := by
  cases gu with
  | none =>
    rw [show putV none o.dst env x = put env o.dst (.v x) from rfl, eget_put, if_pos e]
    show Rep α _ x
    rw [put_self e ht]; exact h1 fun _ _ e => by cases e
  | some gu =>
    obtain ⟨g, u⟩ := gu
    rw [show putV (some (g, u)) o.dst env x = put env o.dst (.v (gsel (sval (eget env.tm g)) u x)) from rfl, eget_put, if_pos e]
    show Rep α _ (gsel _ u x)
    rw [put_self e ht]
    rcases gsel_eq (sval (eget env.tm g)) u x with ⟨q1, q2⟩ | ⟨q1, q2⟩ | q1
    · rw [q1]; exact h1 (ge_gv hs hla fun g' u' e => by cases e; exact q2)
    · rw [q1, h2 (gn_gv hs hla ⟨g, u, rfl, q2⟩)]; exact .tup .nil
    · rw [q1]; exact .unk _
theorem pf_mov {x : Operand} (ho : o.op = .move x ∨ o.op = .assign x) : Pf P W0 n0 nt gu o env (putV gu o.dst env (val env x)) .no :=
  pf_val rfl (fun V α β w a h hs _ hla _ hv => ⟨a.eval x, by
      obtain ⟨d, op, ty, pos, af, g⟩ := o
      rcases ho with ho | ho <;> (have ho : op = _ := ho; subst ho; rfl), fun t e _ ht => putV_rep hs hla e ht (fun _ => op_rep hs hla (by rcases ho with ho | ho <;> rw [ho] <;> simp [Op.operands])) fun h => absurd hv h⟩)
    fun V α β w a h hs _ hla hv t e _ ht => putV_rep hs hla e ht (fun h => absurd h hv) fun _ => rfl
theorem pf_ptr {x : Operand} {b q f : Nat} (hx : x ∈ o.op.operands) (hp : ptrOf env gu x = some (b, q))
    (hop : ∀ (k : Nat) (a : Act) (w : World), a.eval x = .pointer (some ⟨k, q, none⟩) → (execOp a.eval o).run P w = .ok (.value (.pointer (some ⟨k, f, none⟩))) w) : Pf P W0 n0 nt gu o env (putP gu o.dst env b f) .no := by
  refine pf_val rfl (fun V α β w a h hs _ hla _ hv => ?_) fun V α β w a h hs _ hla hv t e hg ht => ?_
  · obtain ⟨k, q1, q2⟩ := ptr_rep hs hla hx hp
    refine ⟨_, hop k a w (q2 hv), fun t e hg ht => ?_⟩
    cases gu with
    | none =>
      rw [show putP none o.dst env b f = put env o.dst (.p b f) from rfl, eget_put, if_pos e]
      exact ⟨k, q1, put_self e ht⟩
    | some gu =>
      rw [show putP (some gu) o.dst env b f = put env o.dst (.pg gu.1 gu.2 b f) from rfl, eget_put, if_pos e]
      exact ⟨k, q1, fun _ => put_self e ht⟩
  · obtain ⟨k, q1, q2⟩ := ptr_rep hs hla hx hp
    cases gu with
    | none => exact absurd (fun _ _ e => by cases e) hv
    | some gu =>
      rw [show putP (some gu) o.dst env b f = put env o.dst (.pg gu.1 gu.2 b f) from rfl, eget_put, if_pos e]
      refine ⟨k, q1, fun h2 => absurd (fun g' u' e' => ?_) hv⟩
      cases e'
      rw [put_other e ht (hg _ _ rfl)] at h2
      exact h2
end
end Go.X1

set_option maxRecDepth 100000
namespace Go.X1
variable [Nu]
section
variable {P : Program} {TT : List TI} {W0 : World} {n0 nt : Nat} {V : Lc → E} {α : Al} {β : Be} {w : World} {a : Act} {env env' : E} {gu : Option (Nat × Bool)} {o : Oper} {lf : Nat × A × H} {h : H} {k : K}
theorem Row.congr {k n : Nat} {f g : Nat → A} (h : Row α w k n f) (e : ∀ i, f i = g i) : Row α w k n g := by
  rw [show g = f from funext fun i => (e i).symm]; exact h
theorem row_vals {b k n : Nat} (hr : Row α w k n (cget env.cl b)) : ∀ (m q : Nat), q + m ≤ n →
    ∃ vs : List Value, vs.length = m ∧ (∀ j v, vs[j]? = some v → w.cell? ⟨k, q + j, none⟩ = some v) ∧ (∀ v ∈ vs, v.oneCell' = true) ∧ RepL α vs (cellsAt env b q m)
  | 0, q, _ => ⟨[], rfl, fun j v hj => by simp at hj, fun v hv => by simp at hv, .nil⟩
  | m + 1, q, hq => by
    obtain ⟨cs, el, h1, h2, h3⟩ := hr
    obtain ⟨u, q1, q2, q3⟩ := h3 q (by omega)
    obtain ⟨vs, g1, g2, g3, g4⟩ := row_vals ⟨cs, el, h1, h2, h3⟩ m (q + 1) (by omega)
    refine ⟨u :: vs, by rw [List.length_cons, g1], fun j v hj => ?_, fun v hv => ?_, .cons q3 g4⟩
    · cases j with
      | zero =>
        simp only [List.getElem?_cons_zero, Option.some.injEq] at hj
        subst hj
        exact cell_of h1 q1
      | succ j =>
        have := g2 j v (by simpa using hj)
        rw [show q + (j + 1) = q + 1 + j by omega]
        exact this
    · rcases List.mem_cons.1 hv with rfl | hv
      · exact q2
      · exact g3 v hv
theorem bhas_some {pb : List (Nat × Nat)} {b q m : Nat} (h : bhas pb b q m = true) : ∃ n, bget pb b = some n ∧ q + m ≤ n := by
  unfold bhas at h
  cases hb : bget pb b with
  | none => rw [hb] at h; cases h
  | some n => rw [hb] at h; exact ⟨n, rfl, ble h⟩
theorem pf_ld (hT : TabOK P TT) {t : Nat} {x : Operand} {b q : Nat} (ho : o.op = .load t x) (hz : nz TT t = true) (hp : ptrOf env gu x = some (b, q)) (hb : bhas env.pb b q (tget? TT t).size = true) :
    Pf P W0 n0 nt gu o env (putV gu o.dst env (bif (tget? TT t).agg then .nd 0 (cellsAt env b q (tget? TT t).size) else cget env.cl b q)) (.rd b) := by
  obtain ⟨n, hn, hq⟩ := bhas_some hb
  have hpos := nz_pos hz
  refine pf_val rfl (fun V α β w a h hs _ hla hba hv => ?_) fun V α β w a h hs _ hla hv t e _ ht => putV_rep hs hla e ht (fun h => absurd h hv) fun _ => rfl
  obtain ⟨k, q1, q2⟩ := ptr_rep hs hla (by rw [ho]; simp [Op.operands]) hp
  obtain ⟨b1, b2⟩ := hba b rfl
  obtain ⟨k', r1, r2⟩ := hs.base b n (by rw [b1]; exact hn)
  rw [q1] at r1
  cases r1
  have r3 := r2.congr b2
  obtain ⟨d, op, ty, pos, af, g⟩ := o
  have ho : op = _ := ho
  subst ho
  have hx : a.eval x = _ := q2 hv
  cases ha : (tget? TT t).agg
  · obtain ⟨cs, el, g1, g2, g3⟩ := r3
    obtain ⟨u, c1, c2, c3⟩ := g3 q (by omega)
    refine ⟨u, ?_, fun t' e _ ht => putV_rep hs hla e ht (fun _ => c3) fun h => absurd hv h⟩
    have hc := cell_of (w := w) g1 c1
    simp [execOp, hx, Instr.loadAt, Instr.sureAddr, loadVar, hT.isAgg hz, ha, hc]
  · obtain ⟨vs, g1, g2, g3, g4⟩ := row_vals r3 (tget? TT t).size q hq
    refine ⟨.agg ⟨vs⟩, ?_, fun t' e _ ht => putV_rep hs hla e ht (fun _ => .agg g4 g3) fun h => absurd hv h⟩
    have hc := run_loadCells_list (P := P) w ⟨k, q, none⟩ vs (fun j v hj => by rw [addr_add]; exact g2 j v hj)
    rw [g1] at hc
    simp [execOp, hx, Instr.loadAt, Instr.sureAddr, loadVar, hT.isAgg hz, ha, hT.size hz, hc]
theorem setCl_get (b : Nat) : ∀ (xs : List A) (i : Nat) (l : List ((Nat × Nat) × A)) (b' j : Nat), cget (setCl b i xs l) b' j = if b' = b ∧ i ≤ j ∧ j < i + xs.length then xs[j - i]?.getD junk else cget l b' j
  | [], i, l, b', j => by rw [if_neg (fun h => by simp only [List.length_nil] at h; omega)]; rfl
  | x :: xs, i, l, b', j => by
    show (bif Nat.beq b' b && Nat.beq j i then x else cget (setCl b (i + 1) xs l) b' j) = _
    rw [setCl_get b xs (i + 1) l b' j, nat_beq, nat_beq]
    by_cases hb : b' = b
    · subst hb
      by_cases hj : j = i
      · subst hj; simp
      · by_cases h2 : i + 1 ≤ j ∧ j < i + 1 + xs.length
        · rw [if_pos ⟨rfl, h2⟩, if_pos ⟨rfl, by omega, by simp only [List.length_cons]; omega⟩]
          rw [show j - i = (j - (i + 1)) + 1 by omega]
          simp [hj]
        · rw [if_neg (fun h => h2 h.2), if_neg (by simp; omega)]
          simp [hj]
    · rw [if_neg (fun h => hb h.1), if_neg (fun h => hb h.1)]
      simp [hb]
theorem pf_mk {d : Nat} {cs : List A} (hgu : gu = none) (hd : o.dst = some d)
    (hop : ∀ (α : Al) (w : World) (a : Act), (∀ y ∈ o.op.operands, Rep α (a.eval y) (val env y)) → ∃ vs el, (execOp a.eval o).run P w = .ok (.value (.pointer (some ⟨w.heap.size, 0, none⟩))) (w.alloc (.cells ⟨vs⟩ el (0, 0))) ∧ cs.length ≤ vs.length ∧ ∀ i, i < cs.length → ∃ v, vs[i]? = some v ∧ v.oneCell' = true ∧ Rep α v (cs[i]?.getD junk)) :
    Pf P W0 n0 nt gu o env (newB env d cs) (.wr d) := by
  intro V α β w a h hs hw0 hr hla _ _ hdn _ hβ hpg N Q hn
  subst hgu
  refine ⟨fun _ => ?_, fun h => absurd (fun _ _ e => by cases e) h⟩
  obtain ⟨vs, el, h1, h2, h3⟩ := hop α w a fun y hy => op_rep hs hla hy
  refine value_wp h1 (hn (fun b => if b = d then some w.heap.size else β b) _ _ (fun _ _ _ _ _ _ s => s.alloc _) (fun b k e => ?_) (fun b e1 e2 => ?_) ?_)
  · show (if b = d then some w.heap.size else β b) = _
    rw [if_neg (fun q => by subst q; rw [hβ b hd rfl] at e; cases e)]; exact e
  · by_cases hb : b = d
    · subst hb; exact ⟨hd, rfl⟩
    · exfalso; apply e2
      exact (if_neg hb).trans e1
  · rw [hd]
    refine hs.mk' hw0 (fun i L e => (hr.dom i L e).2.2) (hdn d hd) (hβ d hd rfl) h3 h2 (fun t g u b o e => fun q => hpg t g u b o e (by rw [hd, q])) ?_ ?_ fun i hi => ?_
    · show (bif Nat.beq d d then S.p d 0 else _) = _
      rw [nat_beq]; simp
    · show (bif Nat.beq d d then some cs.length else _) = _
      rw [nat_beq]; simp
    · show cget (setCl d 0 cs env.cl) d i = _
      rw [setCl_get, if_pos ⟨rfl, Nat.zero_le _, by omega⟩, Nat.sub_zero]
theorem pf_st {x : Operand} {b q : Nat} {cs : List A} (hgu : gu = none) (hd : o.dst = none) (hx : x ∈ o.op.operands) (hp : ptrOf env none x = some (b, q)) (hb : bhas env.pb b q cs.length = true)
    (hop : ∀ (k : Nat) (α : Al) (w : World) (a : Act) (c0 : Array Value) (el : TypeId), a.eval x = .pointer (some ⟨k, q, none⟩) → w.heap[k]? = some (.cells c0 el (0, 0)) → q + cs.length ≤ c0.size → (∀ y ∈ o.op.operands, Rep α (a.eval y) (val env y)) →
      ∃ vs, (execOp a.eval o).run P w = .ok .skip (w.setRow k (c0.toList.take q ++ vs ++ c0.toList.drop (q + vs.length)).toArray) ∧ RepL α vs (lA cs) ∧ vs.length = cs.length ∧ ∀ v ∈ vs, v.oneCell' = true) :
    Pf P W0 n0 nt gu o env ⟨env.tm, setCl b q cs env.cl, env.pb⟩ (.wr b) := by
  intro V α β w a h hs hw0 hr hla _ hba hdn _ hβ hpg N Q hn
  subst hgu
  refine ⟨fun hv => ?_, fun h => absurd (fun _ _ e => by cases e) h⟩
  obtain ⟨k, q1, q2⟩ := ptr_rep hs hla hx hp
  obtain ⟨n, hn', hq⟩ := bhas_some hb
  obtain ⟨b1, b2⟩ := hba b rfl hd
  have hbn : bget (V (.b b)).pb b = some n := by rw [b1]; exact hn'
  obtain ⟨k', r1, c0, el, g1, g2, g3⟩ := hs.base b n hbn
  rw [q1] at r1
  cases r1
  obtain ⟨vs, e1, e2, e3, e4⟩ := hop k α w a c0 el (q2 hv) g1 (by omega) fun y hy => op_rep hs hla hy
  obtain ⟨o1, o2, o3⟩ := hs.own b k q1
  refine skip_wp e1 ?_
  rw [hd]
  refine hn β _ a (fun α0 w0 h0 h hW h1 s => s.setRow hW _ (Nat.le_trans h1 o1) o3) (fun _ _ e => e) (fun b e1 e2 => absurd e1 e2) ?_
  · rw [hd]
    refine hs.store hbn q1 g1 e2 e3 e4 (by omega) hn' fun i => ?_
    show cget (setCl b q cs env.cl) b i = _
    rw [setCl_get, b2]
    by_cases hi : q ≤ i ∧ i < q + cs.length
    · rw [if_pos ⟨rfl, hi⟩, if_pos hi]
    · rw [if_neg fun h => hi h.2, if_neg hi]
theorem ch_cells {pv : List Nat} {b q : Nat} {cs : List A} (hd : o.dst = none) : Ch pv gu o env ⟨env.tm, setCl b q cs env.cl, env.pb⟩ (.wr b) where
  slot t ht := rfl
  base b' hb := ⟨rfl, fun i => by
    show cget (setCl b q cs env.cl) b' i = _
    rw [setCl_get, if_neg fun h => hb (by rw [h.1])]⟩
  pg t g u b q e := .inl e
  fre d h _ := by rw [hd] at h; cases h
  wr b e := .inl hd
theorem ch_new {pv : List Nat} {d : Nat} {cs : List A} (hd : o.dst = some d) (hp : hasN pv d = true) (hf : fresh env d = true) : Ch pv gu o env (newB env d cs) (.wr d) where
  slot t ht := by
    show (bif Nat.beq t d then S.p d 0 else _) = _
    rw [nat_beq, decide_eq_false fun e => ht (by rw [hd, e])]; rfl
  base b' hb := by
    have hne : b' ≠ d := fun e => hb (by rw [e])
    refine ⟨?_, fun i => ?_⟩
    · show (bif Nat.beq b' d then some cs.length else _) = _
      rw [nat_beq, decide_eq_false hne]; rfl
    · show cget (setCl d 0 cs env.cl) b' i = _
      rw [setCl_get, if_neg fun h => hne h.1]
  pg t g u b q e := by
    by_cases ht : t = d
    · subst ht
      have : eget (newB env t cs).tm t = .p t 0 := by
        show (bif Nat.beq t t then S.p t 0 else _) = _
        rw [nat_beq]; simp
      rw [this] at e; cases e
    · have : eget (newB env d cs).tm t = eget env.tm t := by
        show (bif Nat.beq t d then S.p d 0 else _) = _
        rw [nat_beq, decide_eq_false ht]; rfl
      rw [this] at e; exact .inl e
  fre d' h1 h2 := by cases h2; exact ⟨hp, hf⟩
  wr b e := by cases e; exact .inr hd
theorem ch_putV {pv : List Nat} {x : A} {ac : Ac} (hac : ∀ b, ac ≠ .wr b) : Ch pv gu o env (putV gu o.dst env x) ac := by
  cases gu with
  | none => exact ch_put (fun _ _ _ _ e => by cases e) hac
  | some g => exact ch_put (s := .v _) (fun _ _ _ _ e => by cases e) hac
theorem ch_putP {pv : List Nat} {b q : Nat} {ac : Ac} (hac : ∀ b, ac ≠ .wr b) : Ch pv gu o env (putP gu o.dst env b q) ac := by
  cases gu with
  | none => exact ch_put (fun _ _ _ _ e => by cases e) hac
  | some g => exact ch_put (s := .pg g.1 g.2 b q) (fun g' u' _ _ e => by cases e; rfl) hac
/-- What one operation in its place comes to. -/
def Dop (P : Program) (W0 : World) (n0 nt : Nat) (TT : List TI) (pu pv : List Nat) (gu : Option (Nat × Bool)) (o : Oper) (env : E) (h : H) (env' : E) (h' : H) (ac : Ac) : Prop :=
  Ch pv gu o env env' ac ∧ ((GE gu env ∧ ac = .op ∧ ∃ x, env' = put env o.dst (.v x) ∧ OpK P W0 (kindOf TT pu o.op) o.op (val env) h x h') ∨ (h' = h ∧ Pf P W0 n0 nt gu o env env' ac))
theorem oGrd_lf {x : A} {u : Bool} {m : (A → H → R) → R} {c : A → H → R} (hl : (oGrd x u h m c).lf = some lf) : (x = .bool u ∧ (m c).lf = some lf) ∨ ((x = .bool (!u) ∨ x = und) ∧ (c und h).lf = some lf) := by
  cases x with
  | bool t =>
    rcases rec_lf hl with ⟨h1, hl⟩ | ⟨h1, hl⟩
    · rw [eqb_eq] at h1
      exact .inl ⟨by cases t <;> cases u <;> simp_all, hl⟩
    · rw [eqb_eq] at h1
      exact .inr ⟨.inl (by cases t <;> cases u <;> simp_all), hl⟩
  | nd g l =>
    cases l with
    | nl =>
      obtain ⟨h1, hl⟩ := oCk_lf hl
      have : g = 1 := beq h1
      subst this
      exact .inr ⟨.inr rfl, hl⟩
    | _ => exact bad_lf hl
  | _ => exact bad_lf hl
theorem gen_sound {pu pv : List Nat} {F : H → (A → H → R) → R} {K : E → H → R} (hF : ∀ c lf, (F h c).lf = some lf → ∃ x h', (c x h').lf = some lf ∧ OpK P W0 (kindOf TT pu o.op) o.op (val env) h x h')
    (hl : (gen gu o.dst env h F K).lf = some lf) : ∃ env' h', (K env' h').lf = some lf ∧ Dop P W0 n0 nt TT pu pv gu o env h env' h' .op := by
  replace hl := tid_lf hl
  cases gu with
  | none =>
    obtain ⟨x, h', h1, h2⟩ := hF _ _ hl
    exact ⟨_, h', h1, ch_put (fun _ _ _ _ e => by cases e) (fun b e => by cases e), .inl ⟨(fun _ _ e => by cases e), rfl, x, rfl, h2⟩⟩
  | some gu =>
    obtain ⟨g, u⟩ := gu
    rcases oGrd_lf hl with ⟨hg, hl⟩ | ⟨hg, hl⟩
    · obtain ⟨x, h', h1, h2⟩ := hF _ _ hl
      exact ⟨_, h', h1, ch_put (fun _ _ _ _ e => by cases e) (fun b e => by cases e), .inl ⟨fun g' u' e => by cases e; exact hg, rfl, x, rfl, h2⟩⟩
    · exact ⟨_, h, hl, ch_put (fun _ _ _ _ e => by cases e) (fun b e => by cases e), .inr ⟨rfl, pf_skip rfl ⟨g, u, rfl, hg⟩⟩⟩
theorem unl_lf : ∀ (n : Nat) {l : A} {c : List A → R}, (unl n l c).lf = some lf → ∃ xs, xs.length = n ∧ n ≤ llen l ∧ (∀ i, i < n → nth l i = xs[i]?.getD junk) ∧ (c xs).lf = some lf
  | 0, l, c, hl => ⟨[], rfl, Nat.zero_le _, fun i hi => absurd hi (Nat.not_lt_zero _), tid_lf hl⟩
  | n + 1, l, c, hl => by
    obtain ⟨x, r, h1, hl⟩ := oCn_lf (tid_lf hl)
    obtain ⟨xs, h2, h3, h4, h5⟩ := unl_lf n hl
    refine ⟨x :: xs, by rw [List.length_cons, h2], by rw [h1, llen_cn]; omega, fun i hi => ?_, h5⟩
    rw [h1]
    cases i with
    | zero => rfl
    | succ i => rw [nth_cnS, h4 i (by omega)]; rfl
theorem repL_of : ∀ (vs : List Value) (xs : List A), vs.length = xs.length → (∀ (i : Nat) (v : Value), vs[i]? = some v → Rep α v (xs[i]?.getD junk)) → RepL α vs (lA xs)
  | [], [], _, _ => .nil
  | v :: vs, x :: xs, hl, h => .cons (h 0 v rfl) (repL_of vs xs (by simpa using hl) fun i u hu => h (i + 1) u (by simpa using hu))
  | [], _ :: _, hl, _ => by simp at hl
  | _ :: _, [], hl, _ => by simp at hl
theorem dop_sound {Γ : Cx} (hΓ : Γ.T = TT) (hT : TabOK P TT) (hB : TabB P TT) (hF : TabF P TT) (hk : CallOK P W0 k) {K : E → H → Ac → R} (hl : (dop Γ k gu o env h K).lf = some lf) :
    ∃ env' h' ac, (K env' h' ac).lf = some lf ∧ Dop P W0 n0 nt TT Γ.pu Γ.pv gu o env h env' h' ac := by
  have hgen : ∀ {K : E → H → R}, (gen gu o.dst env h (opF Γ k (val env) o.op) K).lf = some lf → ∃ env' h', (K env' h').lf = some lf ∧ Dop P W0 n0 nt TT Γ.pu Γ.pv gu o env h env' h' .op := fun hl =>
    gen_sound (fun c lf hl => opF_sound hΓ hT hB hF hk (fun z => rfl) hl) hl
  have hgen2 : (gen gu o.dst env h (opF Γ k (val env) o.op) fun e h => K e h .op).lf = some lf → ∃ env' h' ac, (K env' h' ac).lf = some lf ∧ Dop P W0 n0 nt TT Γ.pu Γ.pv gu o env h env' h' ac := fun hl => by
    obtain ⟨env', h', h1, h2⟩ := hgen hl
    exact ⟨env', h', .op, h1, h2⟩
  have hmov : ∀ x : Operand, (o.op = .move x ∨ o.op = .assign x) → (bb (isP env x) (match ptrOf env gu x with | some (b, f) => K (putP gu o.dst env b f) h .no | none => .bad) (K (putV gu o.dst env (val env x)) h .no)).lf = some lf →
      ∃ env' h' ac, (K env' h' ac).lf = some lf ∧ Dop P W0 n0 nt TT Γ.pu Γ.pv gu o env h env' h' ac := fun x ho hl => by
    rcases bb_lf hl with ⟨_, hl⟩ | ⟨_, hl⟩
    · split at hl
      · rename_i b f hp
        refine ⟨_, _, _, hl, ch_putP (fun b e => by cases e), .inr ⟨rfl, pf_ptr (x := x) (by rcases ho with ho | ho <;> rw [ho] <;> simp [Op.operands]) hp fun k a w hx => ?_⟩⟩
        obtain ⟨d, op, ty, pos, af, g⟩ := o
        rcases ho with ho | ho <;> (have ho : op = _ := ho; subst ho; simp [execOp, hx])
      · exact bad_lf hl
    · exact ⟨_, _, _, hl, ch_putV (fun b e => by cases e), .inr ⟨rfl, pf_mov ho⟩⟩
  unfold dop at hl
  replace hl := tid_lf hl
  split at hl
  · rename_i x ho; exact hmov x (.inl ho) hl
  · rename_i x ho; exact hmov x (.inr ho) hl
  · rename_i x ho
    rcases bb_lf hl with ⟨_, hl⟩ | ⟨_, hl⟩
    · split at hl
      · rename_i b f hp
        refine ⟨_, _, _, hl, ch_putP (fun b e => by cases e), .inr ⟨rfl, pf_ptr (x := x) (by rw [ho]; simp [Op.operands]) hp fun k a w hx => ?_⟩⟩
        obtain ⟨d, op, ty, pos, af, g⟩ := o
        have ho : op = _ := ho
        subst ho
        simp [execOp, hx]
      · exact bad_lf hl
    · rw [← ho] at hl; exact hgen2 hl
  · rename_i t x f ho
    rcases bb_lf hl with ⟨_, hl⟩ | ⟨_, hl⟩
    · split at hl
      · rename_i b q r ft hp hf
        rcases bb_lf hl with ⟨hz, hl⟩ | ⟨_, hl⟩
        · refine ⟨_, _, _, hl, ch_putP (fun b e => by cases e), .inr ⟨rfl, pf_ptr (x := x) (by rw [ho]; simp [Op.operands]) hp fun k a w hx => ?_⟩⟩
          rw [hΓ] at hf hz
          obtain ⟨fields, fd, g1, g2, g3, g4⟩ := fieldOf_spec hT hf
          obtain ⟨d, op, ty, pos, af, g⟩ := o
          have ho : op = _ := ho
          subst ho
          have hsz : (tget? TT ft).size ≠ 0 := by have := nz_pos hz; omega
          subst g3; subst g4
          simp [execOp, hx, Instr.fieldAt, run_underlying g1, g2, Instr.sureAddr, fieldPlace, hT.size hz, hsz, addr_add]
        · exact bad_lf hl
      · exact bad_lf hl
    · rw [← ho] at hl; exact hgen2 hl
  · rename_i t x ho
    rcases bb_lf hl with ⟨_, hl⟩ | ⟨_, hl⟩
    · split at hl
      · rename_i b q hp
        rcases bb_lf hl with ⟨hb, hl⟩ | ⟨_, hl⟩
        · rw [Bool.and_eq_true] at hb
          rw [hΓ] at hl hb
          exact ⟨_, _, _, hl, ch_putV (fun b e => by cases e), .inr ⟨rfl, pf_ld hT ho hb.1 hp hb.2⟩⟩
        · exact bad_lf hl
      · exact bad_lf hl
    · rw [← ho] at hl; exact hgen2 hl
  · rename_i e ho
    split at hl
    · rename_i d hd
      rcases bb_lf hl with ⟨hpv, hl⟩ | ⟨_, hl⟩
      · rcases bb_lf hl with ⟨hb, hl⟩ | ⟨_, hl⟩
        · rw [Bool.and_eq_true, Bool.and_eq_true] at hb
          obtain ⟨⟨hz, h1⟩, hf⟩ := hb
          rw [hΓ] at hl hz h1
          refine ⟨_, _, _, hl, ch_new hd hpv hf, .inr ⟨rfl, pf_mk rfl hd fun α w a hρ => ?_⟩⟩
          have h2 : (tget? TT e).zero ≠ [] := fun q => by
            obtain ⟨i, h1, h2, _⟩ := hT.info hz
            have := (hB e i h1).2.1 (by have := nz_pos hz; rw [← h2]; omega)
            rw [← h2, q] at this
            have := nz_pos hz
            simp at *; omega
          obtain ⟨z, q1, q2⟩ := hT.zero h2
          obtain ⟨d, op, ty, pos, af, g⟩ := o
          have ho : op = _ := ho
          subst ho
          refine ⟨z.cells.toList, e, by simp only [execOp, Instr.alloc, Sem.run_bind, q1, Result.andThen_ok]; rfl, by rw [← q2]; simp, fun i hi => ?_⟩
          rw [← q2] at hi h1 ⊢
          have hi : i < z.cells.toList.length := by simpa using hi
          refine ⟨z.cells.toList[i], List.getElem?_eq_getElem hi, oneA_one (rep_cv α _) (List.all_eq_true.1 h1 _ (List.mem_map_of_mem (List.getElem_mem hi))), ?_⟩
          rw [List.getElem?_map, List.getElem?_eq_getElem hi]
          exact rep_cv α _
        · exact bad_lf hl
      · rw [← ho, ← hd] at hl; exact hgen2 hl
    · rw [← ho] at hl; exact hgen2 hl
  · rename_i e x ho
    split at hl
    · rename_i d hd
      rcases bb_lf hl with ⟨hpv, hl⟩ | ⟨_, hl⟩
      · rcases bb_lf hl with ⟨hb, hl⟩ | ⟨_, hl⟩
        · rw [Bool.and_eq_true] at hb
          obtain ⟨hz, hf⟩ := hb
          rcases bb_lf hl with ⟨_, hl⟩ | ⟨_, hl⟩
          · obtain ⟨g, l, hx, hl⟩ := oNd_lf hl
            obtain ⟨g0, hl⟩ := oCk_lf hl
            have g0 : g = 0 := beq g0
            rw [g0] at hx
            obtain ⟨xs, u1, u2, u3, hl⟩ := unl_lf _ hl
            refine ⟨_, _, _, hl, ch_new hd hpv hf, .inr ⟨rfl, pf_mk rfl hd fun α w a hρ => ?_⟩⟩
            have hv := hρ x (by rw [ho]; simp [Op.operands])
            rw [hx] at hv
            obtain ⟨vs, q0, q1, q2⟩ := rep_agg hv
            obtain ⟨d, op, ty, pos, af, g⟩ := o
            have ho : op = _ := ho
            subst ho
            have hlen := q1.len
            refine ⟨vs, e, by simp only [execOp, q0, Instr.box, newVar, newRow, Value.cells]; rfl, by omega, fun i hi => ?_⟩
            have hlt : i < vs.length := by omega
            refine ⟨vs[i], List.getElem?_eq_getElem hlt, q2 _ (List.getElem_mem hlt), ?_⟩
            rw [← u3 i (by omega)]
            exact q1.get _ _ (List.getElem?_eq_getElem hlt)
          · obtain ⟨hl, hone⟩ := oOne_lf hl
            refine ⟨_, _, _, hl, ch_new hd hpv hf, .inr ⟨rfl, pf_mk rfl hd fun α w a hρ => ?_⟩⟩
            have hv := hρ x (by rw [ho]; simp [Op.operands])
            obtain ⟨q1, q2⟩ := hone α _ hv
            obtain ⟨d, op, ty, pos, af, g⟩ := o
            have ho : op = _ := ho
            subst ho
            refine ⟨[a.eval x], e, by simp only [execOp, Instr.box, newVar, newRow, q2]; rfl, Nat.le_refl _, fun i hi => ?_⟩
            have : i = 0 := by simp at hi; omega
            subst this
            exact ⟨_, rfl, q1, hv⟩
        · exact bad_lf hl
      · rw [← ho, ← hd] at hl; exact hgen2 hl
    · rw [← ho] at hl; exact hgen2 hl
  · rename_i t x v ho
    rcases bb_lf hl with ⟨_, hl⟩ | ⟨_, hl⟩
    · split at hl
      · rename_i b q hd _ hp
        rcases bb_lf hl with ⟨hb, hl⟩ | ⟨_, hl⟩
        · rw [Bool.and_eq_true] at hb
          obtain ⟨hz, hb⟩ := hb
          rw [hΓ] at hz hb hl
          rcases bb_lf hl with ⟨_, hl⟩ | ⟨_, hl⟩
          · obtain ⟨g, l, hx, hl⟩ := oNd_lf hl
            obtain ⟨g0, hl⟩ := oCk_lf hl
            obtain ⟨g1, hl⟩ := oCk_lf hl
            have g0 : g = 0 := beq g0
            have g1 : llen l = (tget? TT t).size := beq g1
            rw [g0] at hx
            obtain ⟨xs, u1, u2, u3, hl⟩ := unl_lf _ hl
            refine ⟨_, _, _, hl, ch_cells hd, .inr ⟨rfl, pf_st rfl hd (x := x) (by rw [ho]; simp [Op.operands]) hp (by rw [u1]; exact hb) fun k α w a c0 el hxk hw hq hρ => ?_⟩⟩
            have hv := hρ v (by rw [ho]; simp [Op.operands])
            rw [hx] at hv
            obtain ⟨vs, q0, q1, q2⟩ := rep_agg hv
            have hlen := q1.len
            obtain ⟨d, op, ty, pos, af, g⟩ := o
            have ho : op = _ := ho
            subst ho
            have hrun := run_storeCells_fz (P := P) k q el vs 0 c0 w hw (by omega) q2
            simp only [Nat.add_zero] at hrun
            have hsz := hT.size hz
            refine ⟨vs, ?_, repL_of vs xs (by omega) fun i u hu => ?_, by omega, q2⟩
            · have h3 : vs.length = (tget? TT t).size := by omega
              simp [execOp, hxk, q0, Instr.storeAt, Instr.sureAddr, storeVar, hsz, Value.cells, h3] at hrun ⊢
              simp [hrun]
            · have hi : i < vs.length := by
                rcases Nat.lt_or_ge i vs.length with h | h
                · exact h
                · rw [List.getElem?_eq_none h] at hu; cases hu
              rw [← u3 i (by omega)]
              exact q1.get _ _ hu
          · rcases bb_lf hl with ⟨h1, hl⟩ | ⟨_, hl⟩
            · obtain ⟨hl, hone⟩ := oOne_lf hl
              have h1 := sz1_eq h1
              refine ⟨_, _, _, hl, ch_cells (cs := [val env v]) hd, .inr ⟨rfl, pf_st (cs := [val env v]) rfl hd (x := x) (by rw [ho]; simp [Op.operands]) hp (by show bhas env.pb b q 1 = true; rw [← h1]; exact hb) fun k α w a c0 el hxk hw hq hρ => ?_⟩⟩
              have hv := hρ v (by rw [ho]; simp [Op.operands])
              obtain ⟨q1, q2⟩ := hone α _ hv
              obtain ⟨d, op, ty, pos, af, g⟩ := o
              have ho : op = _ := ho
              subst ho
              have hrun := run_storeCells_fz (P := P) k q el [a.eval v] 0 c0 w hw (by simpa using hq) (by simpa using q1)
              simp only [Nat.add_zero] at hrun
              have hsz := hT.size hz
              rw [h1] at hsz
              exact ⟨[a.eval v], by simp [execOp, hxk, Instr.storeAt, Instr.sureAddr, storeVar, hsz, q2, hrun], .cons hv .nil, rfl, by simpa using q1⟩
            · exact bad_lf hl
        · exact bad_lf hl
      · exact bad_lf hl
    · rw [← ho] at hl; exact hgen2 hl
  · exact hgen2 hl
end
end Go.X1

set_option maxRecDepth 100000
namespace Go.X1
variable [Nu]
theorem hasN_iff : ∀ (l : List Nat) (i : Nat), hasN l i = true ↔ i ∈ l
  | [], i => by simp [hasN]
  | x :: r, i => by
    rw [hasN, Bool.or_eq_true, hasN_iff r i, Nat.beq_eq, List.mem_cons]
theorem eget_mem : ∀ (l : List (Nat × S)) (t : Nat), (∃ s, (t, s) ∈ l ∧ eget l t = s) ∨ eget l t = .v junk
  | [], t => .inr rfl
  | (k, s) :: r, t => by
    show (∃ s', _ ∧ (bif Nat.beq t k then s else eget r t) = s') ∨ (bif Nat.beq t k then s else eget r t) = _
    rw [nat_beq]
    by_cases h : t = k
    · subst h
      exact .inl ⟨s, by simp, by simp⟩
    · rw [decide_eq_false h]
      rcases eget_mem r t with ⟨s', h1, h2⟩ | h1
      · exact .inl ⟨s', by simp [h1], h2⟩
      · exact .inr h1
theorem fresh_pb {env : E} {d : Nat} (h : fresh env d = true) : bget env.pb d = none := by
  unfold fresh at h
  rw [Bool.and_eq_true] at h
  cases hb : bget env.pb d with
  | none => rfl
  | some n => rw [hb] at h; simp at h
theorem fresh_tm {env : E} {d t : Nat} {b o : Nat} (h : fresh env d = true) (e : eget env.tm t = .p b o ∨ ∃ g u, eget env.tm t = .pg g u b o) : b ≠ d := by
  unfold fresh at h
  rw [Bool.and_eq_true] at h
  have h2 := List.all_eq_true.1 h.2
  rcases eget_mem env.tm t with ⟨s, m, q⟩ | q
  · have := h2 _ m
    rcases e with e | ⟨g, u, e⟩ <;>
    · rw [e] at q
      subst q
      simp [notBase, nat_beq] at this
      exact this
  · rcases e with e | ⟨g, u, e⟩ <;> rw [e] at q <;> cases q
theorem eget_purge : ∀ (l : List (Nat × S)) (t : Nat), eget (l.map unPg) t = match eget l t with | .pg .. => .v junk | s => s
  | [], t => rfl
  | (k, s) :: r, t => by
    have ih := eget_purge r t
    cases s <;>
    · simp only [List.map_cons]
      show (bif Nat.beq t k then _ else eget (r.map unPg) t) = match (bif Nat.beq t k then _ else eget r t) with | .pg .. => S.v junk | s => s
      rw [ih]
      cases Nat.beq t k <;> rfl
section
variable {P : Program} {TT : List TI} {W0 : World} {n0 nt : Nat} {V : Lc → E} {α : Al} {β : Be} {w : World} {a : Act} {env env' : E} {gu : Option (Nat × Bool)} {o : Oper} {lf : Nat × A × H} {h h' : H} {k : K}
theorem wanted_iff {ops : List Oper} (hg : guardOf ops o = some gu) : Region.wanted o (yielded ⟨ops⟩ a.tmps) = true ↔ GV gu a := by
  unfold guardOf at hg
  unfold Region.wanted
  cases hgd : o.guard with
  | none =>
    rw [hgd] at hg
    cases hg
    exact ⟨(fun _ _ _ e => by cases e), fun _ => rfl⟩
  | some jw =>
    obtain ⟨j, u⟩ := jw
    rw [hgd] at hg
    simp only at hg ⊢
    split at hg
    · rename_i d hd
      have : gu = some (d, u) := by
        cases hsd : selfD o d
        · rw [hsd] at hg; cases hg; rfl
        · rw [hsd] at hg; cases hg
      subst this
      have hd' : ((⟨ops⟩ : Array Oper)[j]?).bind (·.dst) = some d := by simpa using hd
      unfold yielded
      rw [hd', Option.bind_some]
      constructor
      · intro e g' u' e'
        cases e'
        rw [Array.getD_eq_getD_getElem?]
        cases hq : a.tmps[d]? with
        | none => rw [hq] at e; cases e
        | some v =>
          rw [hq] at e
          cases v <;> simp at e
          rw [e]; rfl
      · intro e
        have e := e d u rfl
        rw [Array.getD_eq_getD_getElem?] at e
        cases hq : a.tmps[d]? with
        | none => rw [hq] at e; cases e
        | some v => rw [hq] at e; simp at e; rw [e]; simp
    · cases hg
theorem guardOf_ne {ops : List Oper} (hg : guardOf ops o = some gu) : ∀ g u, gu = some (g, u) → o.dst ≠ some g := by
  intro g u e hd
  subst e
  unfold guardOf at hg
  split at hg
  · cases hg
  · split at hg
    · rename_i d _
      cases hsd : selfD o d
      · rw [hsd] at hg
        cases hg
        unfold selfD at hsd
        rw [hd] at hsd
        simp at hsd
      · rw [hsd] at hg; cases hg
    · cases hg
theorem SV.congr {V' : Lc → E} (hs : SV n0 nt V α β w a) (h1 : ∀ t, eget (V' (.s t)).tm t = eget (V (.s t)).tm t) (h2 : ∀ b, bget (V' (.b b)).pb b = bget (V (.b b)).pb b ∧ ∀ i, cget (V' (.b b)).cl b i = cget (V (.b b)).cl b i) : SV n0 nt V' α β w a where
  defers := hs.defers
  size := hs.size
  slot t := by rw [h1]; exact hs.slot t
  base b n hb := by
    obtain ⟨k, q1, q2⟩ := hs.base b n (by rw [← (h2 b).1]; exact hb)
    exact ⟨k, q1, q2.congr fun i => ((h2 b).2 i).symm⟩
  own := hs.own
  inj := hs.inj
theorem SV.drop {d : Nat} (hs : SV n0 nt V α β w a) (hp : ∀ t b o, (eget (V (.s t)).tm t = .p b o ∨ ∃ g u, eget (V (.s t)).tm t = .pg g u b o) → b ≠ d) (hb : bget (V (.b d)).pb d = none) : SV n0 nt V α (fun b => if b = d then none else β b) w a where
  defers := hs.defers
  size := hs.size
  slot t := by
    have h1 := hs.slot t
    cases hq : eget (V (.s t)).tm t with
    | v x => rw [hq] at h1; exact h1
    | p b o =>
      rw [hq] at h1
      obtain ⟨k, q1, q2⟩ := h1
      exact ⟨k, (if_neg (hp t b o (.inl hq))).trans q1, q2⟩
    | pg g u b o =>
      rw [hq] at h1
      obtain ⟨k, q1, q2⟩ := h1
      exact ⟨k, (if_neg (hp t b o (.inr ⟨g, u, hq⟩))).trans q1, q2⟩
  base b n hb' := by
    obtain ⟨k, q1, q2⟩ := hs.base b n hb'
    exact ⟨k, (if_neg fun e => by subst e; rw [hb] at hb'; cases hb').trans q1, q2⟩
  own b k hb' := hs.own b k (by
    by_cases e : b = d
    · rw [if_pos e] at hb'; cases hb'
    · rw [if_neg e] at hb'; exact hb')
  inj b b' k h1 h2 := by
    by_cases e : b = d
    · rw [if_pos e] at h1; cases h1
    · by_cases e' : b' = d
      · rw [if_pos e'] at h2; cases h2
      · rw [if_neg e] at h1
        rw [if_neg e'] at h2
        exact hs.inj b b' k h1 h2
/-- A state of a function's run, since its begin (α0, w0, h0). -/
def ST (W0 : World) (nt : Nat) (α0 : Al) (w0 : World) (h0 : H) (env : E) (h : H) (a : Act) (w : World) : Prop :=
  ∃ α β, SV w0.heap.size nt (fun _ => env) α β w a ∧ Step W0 α0 w0 h0 α w h
theorem upd_congr {pv : List Nat} {ac : Ac} (hc : Ch pv gu o env env' ac) (hs : SV n0 nt (upd (fun _ => env) o.dst (wrB ac) env') α β w a) : SV n0 nt (fun _ => env') α β w a := by
  refine hs.congr (fun t => ?_) fun b => ?_
  · by_cases e : o.dst = some t
    · rw [show upd (fun _ => env) o.dst (wrB ac) env' (.s t) = env' from if_pos e]
    · rw [show upd (fun _ => env) o.dst (wrB ac) env' (.s t) = env from if_neg e]
      exact hc.slot t e
  · by_cases e : wrB ac = some b
    · rw [show upd (fun _ => env) o.dst (wrB ac) env' (.b b) = env' from if_pos e]
      exact ⟨rfl, fun _ => rfl⟩
    · rw [show upd (fun _ => env) o.dst (wrB ac) env' (.b b) = env from if_neg e]
      exact hc.base b fun q => e (by rw [q]; rfl)
theorem ops_o {x : A} (hs : OpS P W0 o.op (val env) h x h') (hr : HR W0 α w h) (hρ : ∀ y ∈ o.op.operands, Rep α (a.eval y) (val env y)) {N : Act → World → Prop} {Q : Exit → Act → World → Prop} (hn : ∀ α' w' v, Step W0 α w h α' w' h' → Rep α' v x → N (a.put o.dst v) w') : Oper.wp P o a w N Q := by
  obtain ⟨d, op, ty, pos, af, g⟩ := o
  exact hs d ty pos af g α w a hr hρ N Q hn
variable {α0 : Al} {w0 : World} {h0 : H}
/-- One operation. -/
theorem op_seq {pu pv : List Nat} {ac : Ac} (hW : W0.heap.size ≤ w0.heap.size) (hd : Dop P W0 w0.heap.size nt TT pu pv gu o env h env' h' ac) (hs : ST W0 nt α0 w0 h0 env h a w)
    (hdn : ∀ t, o.dst = some t → t < nt) (hgd : ∀ g u, gu = some (g, u) → o.dst ≠ some g) (hpg : ∀ t g u b q, eget env.tm t = .pg g u b q → o.dst ≠ some g)
    {N : Act → World → Prop} {Q : Exit → Act → World → Prop} (hn : ∀ w' a', ST W0 nt α0 w0 h0 env' h' a' w' → N a' w') : OpStep P gu o a w N Q := by
  obtain ⟨α, β, hs, hst⟩ := hs
  obtain ⟨hc, hd⟩ := hd
  have hla : LA (fun _ => env) env (looks gu o) := fun _ _ => rfl
  rcases hd with ⟨hge, rfl, x, rfl, hk⟩ | ⟨rfl, hpf⟩
  · refine ⟨fun _ => ?_, fun hv => absurd (ge_gv hs hla hge) hv⟩
    refine ops_o hk.ops hst.hr (fun y hy => op_rep hs hla hy) fun α' w' v s1 s2 => hn w' _ ⟨α', β, ?_, hst.trans s1⟩
    refine upd_congr hc ((hs.grow s1.grow).put hdn hpg fun t e => ?_)
    rw [eget_put, if_pos e]
    show Rep α' _ x
    rw [put_self e (Nat.lt_of_lt_of_le (hdn t e) hs.size)]; exact s2
  · by_cases hmk : ∃ d, o.dst = some d ∧ ac = .wr d
    · obtain ⟨d, e1, e2⟩ := hmk
      obtain ⟨_, hf⟩ := hc.fre d e1 e2
      have hs' := hs.drop (d := d) (fun t b o e => fresh_tm hf e) (fresh_pb hf)
      exact hpf (fun _ => env) α _ w a h' hs' hst.fr.size hst.hr hla (fun _ _ => ⟨rfl, fun _ => rfl⟩) (fun _ _ _ => ⟨rfl, fun _ => rfl⟩) hdn hgd (fun d' e3 e4 => if_pos (by rw [e1] at e3; cases e3; rfl)) hpg N Q fun β' w' a' q1 _ _ q2 => hn w' a' ⟨α, β', upd_congr hc q2, q1 _ _ _ _ hW (Nat.le_refl _) hst⟩
    · exact hpf (fun _ => env) α β w a h' hs hst.fr.size hst.hr hla (fun _ _ => ⟨rfl, fun _ => rfl⟩) (fun _ _ _ => ⟨rfl, fun _ => rfl⟩) hdn hgd (fun d' e3 e4 => absurd ⟨d', e3, e4⟩ hmk) hpg N Q fun β' w' a' q1 _ _ q2 => hn w' a' ⟨α, β', upd_congr hc q2, q1 _ _ _ _ hW (Nat.le_refl _) hst⟩
def PgI (env : E) (dn : List Nat) : Prop := ∀ t g u b q, eget env.tm t = .pg g u b q → g ∈ dn
theorem nodupD_cons {l : List Oper} (h : nodupD nt (o :: l) = true) : (∀ d, o.dst = some d → d < nt ∧ ∀ p ∈ l, p.dst ≠ some d) ∧ nodupD nt l = true := by
  unfold nodupD at h
  rw [Bool.and_eq_true] at h
  refine ⟨fun d hd => ?_, h.2⟩
  have h1 := h.1
  rw [hd] at h1
  simp only [Bool.and_eq_true] at h1
  refine ⟨blt h1.1, fun p hp e => ?_⟩
  have := List.all_eq_true.1 h1.2 p hp
  rw [e] at this
  simp at this
theorem pg_step {pv : List Nat} {ac : Ac} {dn : List Nat} (hc : Ch pv gu o env env' ac) (hg : gOk dn gu = true) (hp : PgI env dn) : PgI env' (addD o dn) := fun t g u b q e => by
  have hm : g ∈ dn := by
    rcases hc.pg t g u b q e with h | h
    · exact hp t g u b q h
    · subst h; exact (hasN_iff _ _).1 hg
  unfold addD
  cases o.dst with
  | none => exact hm
  | some d => exact List.mem_cons_of_mem _ hm
theorem dops_sound {Γ : Cx} (hΓ : Γ.T = TT) (hT : TabOK P TT) (hB : TabB P TT) (hF : TabF P TT) (hk : CallOK P W0 k) (hW : W0.heap.size ≤ w0.heap.size) {ops : List Oper} : ∀ (l : List Oper) (dn : List Nat) (env : E) (h : H) (K : E → H → R), (dops Γ k ops dn l env h K).lf = some lf → nodupD nt l = true → (∀ p ∈ l, ∀ d, p.dst = some d → d ∉ dn) → PgI env dn →
    ∃ env' h', (K env' h').lf = some lf ∧ ∀ (Q : Exit → Act → World → Prop), (∀ a w, ST W0 nt α0 w0 h0 env' h' a w → Q .normal a w) → ∀ a w, ST W0 nt α0 w0 h0 env h a w → wpList P ⟨ops⟩ Q l a w
  | [], dn, env, h, K, hl, _, _, _ => ⟨env, h, tid_lf hl, fun Q hQ a w hs => hQ a w hs⟩
  | o :: r, dn, env, h, K, hl, hnd, hdj, hpg => by
    unfold dops at hl
    split at hl
    · rename_i gu hg
      rcases bb_lf hl with ⟨hgo, hl⟩ | ⟨_, hl⟩
      · obtain ⟨env1, h1, ac, hl, hd⟩ := dop_sound (n0 := w0.heap.size) (nt := nt) hΓ hT hB hF hk hl
        obtain ⟨n1, n2⟩ := nodupD_cons hnd
        obtain ⟨env', h', q1, q2⟩ := dops_sound hΓ hT hB hF hk hW r (addD o dn) env1 h1 K hl n2 (fun p hp d hd' => by
          unfold addD
          cases ho : o.dst with
          | none => exact hdj p (by simp [hp]) d hd'
          | some d0 =>
            intro hm
            rcases List.mem_cons.1 hm with rfl | hm
            · exact (n1 _ ho).2 p hp hd'
            · exact hdj p (by simp [hp]) d hd' hm) (pg_step hd.1 hgo hpg)
        refine ⟨env', h', q1, fun Q hQ a w hs => ?_⟩
        obtain ⟨s1, s2⟩ := op_seq (N := wpList P ⟨ops⟩ Q r) (Q := Q) hW hd hs (fun t e => (n1 t e).1) (guardOf_ne hg) (fun t g u b q e e2 => hdj o (by simp) g e2 (hpg t g u b q e)) fun w' a' hs' => q2 Q hQ a' w' hs'
        unfold wpList
        by_cases hw : Region.wanted o (yielded ⟨ops⟩ a.tmps) = true
        · rw [if_pos hw]; exact .inl (s1 ((wanted_iff hg).1 hw))
        · rw [if_neg hw]; exact s2 fun hv => hw ((wanted_iff hg).2 hv)
      · exact bad_lf hl
    · exact bad_lf (tid_lf hl)
theorem st_purge (hs : ST W0 nt α0 w0 h0 env h a w) : ST W0 nt α0 w0 h0 (purge env) h a w := by
  obtain ⟨α, β, hs, hst⟩ := hs
  refine ⟨α, β, ⟨hs.defers, hs.size, fun t => ?_, fun b n hb => hs.base b n hb, hs.own, hs.inj⟩, hst⟩
  show SR α β a t (eget (env.tm.map unPg) t)
  rw [eget_purge]
  have := hs.slot t
  cases hq : eget env.tm t with
  | v x => rw [hq] at this; exact this
  | p b q => rw [hq] at this; exact this
  | pg g u b q => exact .unk _
def NoPg (env : E) : Prop := ∀ t g u b q, eget env.tm t ≠ .pg g u b q
theorem noPg_purge (env : E) : NoPg (purge env) := fun t g u b q e => by
  have e : eget (env.tm.map unPg) t = _ := e
  rw [eget_purge] at e
  cases hq : eget env.tm t <;> rw [hq] at e <;> cases e
theorem region_seq {Γ : Cx} (hΓ : Γ.T = TT) (hT : TabOK P TT) (hB : TabB P TT) (hF : TabF P TT) (hk : CallOK P W0 k) (hW : W0.heap.size ≤ w0.heap.size) {ops : List Oper} {id : Nat} {K : E → H → R} (hnp : NoPg env) (hnd : nodupD nt ops = true) (hl : (dops Γ k ops [] ops env h fun env h => K (purge env) h).lf = some lf) :
    ∃ env' h', NoPg env' ∧ (K env' h').lf = some lf ∧ ∀ (Q : Exit → Act → World → Prop), (∀ a w, ST W0 nt α0 w0 h0 env' h' a w → Q .normal a w) → ∀ a w, ST W0 nt α0 w0 h0 env h a w → (Code.region id ⟨ops⟩ false).wp P Q a w := by
  obtain ⟨env', h', q1, q2⟩ := dops_sound hΓ hT hB hF hk hW ops [] env h _ hl hnd (fun _ _ _ _ => by simp) (fun t g u b q e => absurd e (hnp t g u b q))
  exact ⟨purge env', h', noPg_purge env', q1, fun Q hQ a w hs => wp_region_list (q2 Q (fun a w hs => hQ a w (st_purge hs)) a w hs)⟩
end
end Go.X1

set_option maxRecDepth 100000
namespace Go.X1
variable [Nu]
open Go.Region (ready binds)
/-! Bits -/
theorem bit_eq (m j : Nat) : bit m j = m.testBit j := by
  unfold bit Nat.testBit
  show Nat.beq ((m >>> j) &&& 1) 1 = (1 &&& (m >>> j) != 0)
  rw [Nat.and_comm]
  have h : 1 &&& (m >>> j) = (m >>> j) % 2 := by rw [Nat.and_comm]; exact Nat.and_one_is_mod _
  rw [h]
  rcases Nat.mod_two_eq_zero_or_one (m >>> j) with e | e <;> rw [e] <;> rfl
theorem maskD_bit (ms : List Nat) (j : Nat) : ∀ l : List Nat, bit (maskD ms l) j = true → ∃ k ∈ l, j = k ∨ bit (ms[k]?.getD 0) j = true
  | [], h => by rw [maskD, bit_eq] at h; simp at h
  | k :: r, h => by
    rw [maskD, bit_eq] at h
    have h : ((Nat.shiftLeft 1 k ||| (ms[k]?.getD 0)) ||| maskD ms r).testBit j = true := h
    rw [Nat.testBit_or, Nat.testBit_or, Bool.or_eq_true, Bool.or_eq_true] at h
    rcases h with (h | h) | h
    · have h : (1 <<< k).testBit j = true := h
      rw [Nat.one_shiftLeft, Nat.testBit_two_pow] at h
      exact ⟨k, by simp, .inl (by have : k = j := by simpa using h
                                  exact this.symm)⟩
    · exact ⟨k, by simp, .inr (by rw [bit_eq]; exact h)⟩
    · obtain ⟨k', h1, h2⟩ := maskD_bit ms j r (by rw [bit_eq]; exact h)
      exact ⟨k', by simp [h1], h2⟩
theorem masks_app : ∀ (l : List Oper) (ms : List Nat), ∃ t, masks l ms = ms ++ t ∧ t.length = l.length
  | [], ms => ⟨[], by simp [masks], rfl⟩
  | o :: r, ms => by
    obtain ⟨t, h1, h2⟩ := masks_app r (ms ++ [maskD ms (deps o)])
    exact ⟨maskD ms (deps o) :: t, by rw [masks, h1]; simp, by simp [h2]⟩
theorem masks_get : ∀ (l : List Oper) (ms : List Nat) (i : Nat) (o : Oper), l[i]? = some o → ∃ pre t, masks l ms = pre ++ t ∧ pre.length = ms.length + i ∧ (masks l ms)[ms.length + i]? = some (maskD pre (deps o))
  | [], _, i, o, h => by simp at h
  | o' :: r, ms, 0, o, h => by
    simp at h
    subst h
    obtain ⟨t, h1, h2⟩ := masks_app r (ms ++ [maskD ms (deps o')])
    refine ⟨ms, maskD ms (deps o') :: t, by rw [masks, h1]; simp, by simp, ?_⟩
    rw [masks, h1]
    simp
  | o' :: r, ms, i + 1, o, h => by
    obtain ⟨pre, t, h1, h2, h3⟩ := masks_get r (ms ++ [maskD ms (deps o')]) i o (by simpa using h)
    refine ⟨pre, t, by rw [masks]; exact h1, by rw [h2]; simp; omega, ?_⟩
    rw [masks, show ms.length + (i + 1) = (ms ++ [maskD ms (deps o')]).length + i by simp; omega]
    exact h3
/-- What an operation waits for, straight or through others, has come where what it waits for straight has. -/
theorem anc_listed {ops : List Oper} {L : Nat → Prop} (hc : ∀ i o, ops[i]? = some o → L i → ∀ k ∈ deps o, L k) : ∀ (n i : Nat) (o : Oper), i < n → ops[i]? = some o → (∀ k ∈ deps o, L k) → ∀ j, anc (masks ops []) i j = true → L j
  | 0, _, _, h, _, _, _, _ => absurd h (Nat.not_lt_zero _)
  | n + 1, i, o, hi, ho, hd, j, h => by
    obtain ⟨pre, t, h1, h2, h3⟩ := masks_get ops [] i o ho
    unfold anc at h
    simp only [List.length_nil, Nat.zero_add] at h2 h3
    rw [h3] at h
    obtain ⟨k, k1, k2⟩ := maskD_bit pre j (deps o) h
    rcases k2 with rfl | k2
    · exact hd _ k1
    · cases hk : pre[k]? with
      | none => rw [hk, bit_eq] at k2; simp at k2
      | some m =>
        have hki : k < i := by
          rcases Nat.lt_or_ge k pre.length with h | h
          · omega
          · rw [List.getElem?_eq_none h] at hk; cases hk
        have hil : i < ops.length := by
          rcases Nat.lt_or_ge i ops.length with h | h
          · exact h
          · rw [List.getElem?_eq_none h] at ho; cases ho
        have hko : ops[k]? = some ops[k] := List.getElem?_eq_getElem (by omega)
        have e : (masks ops [])[k]? = pre[k]? := by rw [h1, List.getElem?_append_left (by omega)]
        exact anc_listed hc n k _ (by omega) hko (hc k _ hko (hd k k1)) j (by unfold anc; rw [e]; exact k2)
/-! The run in one order -/
structure Rec where
  i : Nat
  o : Oper
  gu : Option (Nat × Bool)
  e : E
  h : H
  e' : E
  h' : H
  ac : Ac
def kd (T : List TI) (pu : List Nat) (r : Rec) : Option Kd := match r.ac with | .op => some (kindOf T pu r.o.op) | _ => none
def acc (r : Rec) : Option (Nat × Bool) := match r.ac with | .rd b => some (b, false) | .wr b => some (b, true) | _ => none
/-- Read once more, at another heap. -/
def Again (P : Program) (W0 : World) (T : List TI) (pu : List Nat) (r : Rec) (h2 : H) : Prop :=
  GE r.gu r.e → ∃ h3, OpK P W0 (kindOf T pu r.o.op) r.o.op (val r.e) h2 (dval r.o r.e') h3
structure Pair (P : Program) (W0 : World) (T : List TI) (pu : List Nat) (ms : List Nat) (x y : Rec) : Prop where
  ne : x.i ≠ y.i
  s1 : ∀ d, x.o.dst = some d → d ∈ looks y.gu y.o → anc ms y.i x.i = true
  s2 : ∀ d, y.o.dst = some d → d ∈ looks x.gu x.o → anc ms y.i x.i = true
  mm : kd T pu x = some .m → kd T pu y = some .m → anc ms y.i x.i = true
  nn : kd T pu y = some .n → (kd T pu x = some .m ∨ kd T pu x = some .p) → anc ms y.i x.i = true
  ac : ∀ b w1 w2, acc x = some (b, w1) → acc y = some (b, w2) → (w1 = true ∨ w2 = true) → anc ms y.i x.i = true
  r1 : kd T pu x = some .m → (kd T pu y = some .l ∨ kd T pu y = some .p) → anc ms y.i x.i = false → Again P W0 T pu y x.h
  r2 : kd T pu y = some .m → (kd T pu x = some .l ∨ kd T pu x = some .p) → anc ms y.i x.i = false → Again P W0 T pu x y.h'
structure RecOK (P : Program) (W0 : World) (n0 nt : Nat) (T : List TI) (pu pv : List Nat) (ops : List Oper) (dn : List Rec) (r : Rec) : Prop where
  op : ops[r.i]? = some r.o
  gu : guardOf ops r.o = some r.gu
  dop : Dop P W0 n0 nt T pu pv r.gu r.o r.e r.h r.e' r.h' r.ac
  deps : ∀ k ∈ deps r.o, ∃ x ∈ dn, x.i = k
  g : ∀ g u, r.gu = some (g, u) → ∃ x ∈ dn, x.o.dst = some g
structure LgOK (P : Program) (W0 : World) (T : List TI) (pu : List Nat) (ops : List Oper) (ms : List Nat) (lf : Nat × A × H) (lg : DL) (dn : List Rec) : Prop where
  op : ∀ x ∈ dn, ops[x.i]? = some x.o
  sl : ∀ x ∈ dn, ∀ (j : Nat) (o : Oper) (d : Nat), ops[j]? = some o → o.dst = some d → d ∈ looks x.gu x.o → j ∉ lg.ds → anc ms j x.i = true
  ds : ∀ i, i ∈ lg.ds ↔ ∃ x ∈ dn, x.i = i
  len : lg.ds.length = dn.length
  dd : ∀ d ∈ lg.dn, ∃ x ∈ dn, x.o.dst = some d
  ms : ∀ x ∈ dn, kd T pu x = some .m → (x.i, x.h) ∈ lg.ms
  ps : ∀ x ∈ dn, (kd T pu x = some .m ∨ kd T pu x = some .p) → x.i ∈ lg.ps
  rs : ∀ x ∈ dn, (kd T pu x = some .l ∨ kd T pu x = some .p) → ∃ f, (x.i, f) ∈ lg.rs ∧ ∀ h r, (f h r).lf = some lf → Again P W0 T pu x h
  rsr : ∀ p ∈ lg.rs, ∀ h r, (p.2 h r).lf = some lf → r.lf = some lf
  ac : ∀ x ∈ dn, ∀ b w, acc x = some (b, w) → (x.i, b, w) ∈ lg.ac
def Chain : E → H → List Rec → E → H → Prop
  | env, h, [], env', h' => env = env' ∧ h = h'
  | env, h, r :: rs, env', h' => r.e = env ∧ r.h = h ∧ Chain r.e' r.h' rs env' h'
def AllOK (P : Program) (W0 : World) (n0 nt : Nat) (T : List TI) (pu pv : List Nat) (ops : List Oper) : List Rec → List Rec → Prop
  | _, [] => True
  | dn, r :: rs => RecOK P W0 n0 nt T pu pv ops dn r ∧ AllOK P W0 n0 nt T pu pv ops (r :: dn) rs
end Go.X1

set_option maxRecDepth 100000
namespace Go.X1
variable [Nu]
section
variable {P : Program} {TT : List TI} {W0 : World} {n0 nt : Nat} {lf : Nat × A × H} {k : K} {Γ : Cx} {ops : List Oper} {ms : List Nat}
theorem rerun_lf (hΓ : Γ.T = TT) (hT : TabOK P TT) (hB : TabB P TT) (hF : TabF P TT) (hk : CallOK P W0 k) {gu : Option (Nat × Bool)} {o : Oper} {env : E} {v : A} {h2 : H} {r : R} (hl : (rerun Γ k gu o env v h2 r).lf = some lf) :
    r.lf = some lf ∧ (GE gu env → ∃ h3, OpK P W0 (kindOf TT Γ.pu o.op) o.op (val env) h2 v h3) := by
  have go : ∀ {c : A → H → R}, (opF Γ k (val env) o.op h2 fun x h => oCk (eqA x v) (c x h)).lf = some lf → ∃ x h, (c x h).lf = some lf ∧ ∃ h3, OpK P W0 (kindOf TT Γ.pu o.op) o.op (val env) h2 v h3 := fun hl => by
    obtain ⟨x, h3, hl1, ho⟩ := opF_sound hΓ hT hB hF hk (fun z => rfl) hl
    obtain ⟨g1, hl2⟩ := oCk_lf hl1
    rw [eqA_eq _ _ g1] at ho hl2
    exact ⟨_, _, hl2, h3, ho⟩
  replace hl := tid_lf hl
  cases gu with
  | none =>
    obtain ⟨_, _, h1, h2⟩ := go (c := fun _ _ => r) hl
    exact ⟨h1, fun _ => h2⟩
  | some gu =>
    obtain ⟨g, u⟩ := gu
    rcases oGrd_lf hl with ⟨_, hl⟩ | ⟨hg, hl⟩
    · obtain ⟨_, _, h1, h2⟩ := go (c := fun _ _ => r) hl
      exact ⟨h1, fun _ => h2⟩
    · refine ⟨hl, fun he => ?_⟩
      have := he g u rfl
      rcases hg with hg | hg <;> rw [this] at hg
      · cases u <;> cases hg
      · cases hg
theorem again1_lf {i : Nat} {f : H → R → R} {r : R} {AG : H → Prop} (hf : ∀ h r, (f h r).lf = some lf → r.lf = some lf ∧ AG h) : ∀ l : List (Nat × H), (again1 ms i f l r).lf = some lf → r.lf = some lf ∧ ∀ p ∈ l, anc ms i p.1 = false → AG p.2
  | [], hl => ⟨hl, fun p hp => by simp at hp⟩
  | (j, h) :: l, hl => by
    have hl : R.lf (bif anc ms i j then again1 ms i f l r else f h (again1 ms i f l r)) = some lf := hl
    cases ha : anc ms i j
    · rw [ha] at hl
      obtain ⟨h1, h2⟩ := hf _ _ hl
      obtain ⟨h3, h4⟩ := again1_lf hf l h1
      exact ⟨h3, fun p hp hpa => by
        rcases List.mem_cons.1 hp with rfl | hp
        · exact h2
        · exact h4 p hp hpa⟩
    · rw [ha] at hl
      obtain ⟨h3, h4⟩ := again1_lf hf l hl
      exact ⟨h3, fun p hp hpa => by
        rcases List.mem_cons.1 hp with rfl | hp
        · rw [ha] at hpa; cases hpa
        · exact h4 p hp hpa⟩
theorem again2_lf {i : Nat} {h : H} {r : R} : ∀ l : List (Nat × (H → R → R)), (∀ p ∈ l, ∀ h r, (p.2 h r).lf = some lf → r.lf = some lf) → (again2 ms i h l r).lf = some lf → r.lf = some lf ∧ ∀ p ∈ l, anc ms i p.1 = false → ∃ r', (p.2 h r').lf = some lf
  | [], _, hl => ⟨hl, fun p hp => by simp at hp⟩
  | (j, f) :: l, hf, hl => by
    have hl : R.lf (bif anc ms i j then again2 ms i h l r else f h (again2 ms i h l r)) = some lf := hl
    have hf' : ∀ p ∈ l, ∀ h r, (p.2 h r).lf = some lf → r.lf = some lf := fun p hp => hf p (by simp [hp])
    cases ha : anc ms i j
    · rw [ha] at hl
      obtain ⟨h3, h4⟩ := again2_lf l hf' (hf (j, f) (by simp) _ _ hl)
      exact ⟨h3, fun p hp hpa => by
        rcases List.mem_cons.1 hp with rfl | hp
        · exact ⟨_, hl⟩
        · exact h4 p hp hpa⟩
    · rw [ha] at hl
      obtain ⟨h3, h4⟩ := again2_lf l hf' hl
      exact ⟨h3, fun p hp hpa => by
        rcases List.mem_cons.1 hp with rfl | hp
        · rw [ha] at hpa; cases hpa
        · exact h4 p hp hpa⟩
theorem okSlots_spec {ds : List Nat} {i : Nat} {ts : List Nat} (h : okSlots ops ms ds i ts = true) {j : Nat} {o : Oper} {d : Nat} (ho : ops[j]? = some o) (hd : o.dst = some d) (ht : d ∈ ts) : (j ∈ ds → anc ms i j = true) ∧ (j ∉ ds → anc ms j i = true) := by
  have hj : j < ops.length := by
    rcases Nat.lt_or_ge j ops.length with h | h
    · exact h
    · rw [List.getElem?_eq_none h] at ho; cases ho
  have := List.all_eq_true.1 h j (List.mem_range.2 hj)
  rw [ho] at this
  simp only [Option.bind_some, hd] at this
  rw [(hasN_iff ts d).2 ht] at this
  simp only [Bool.not_true, Bool.false_or] at this
  constructor
  · intro hm
    rw [(hasN_iff ds j).2 hm] at this
    exact this
  · intro hm
    have hf : hasN ds j = false := by
      cases hh : hasN ds j
      · rfl
      · exact absurd ((hasN_iff ds j).1 hh) hm
    rw [hf] at this
    exact this
theorem okAc_spec {i b : Nat} {w : Bool} {ac : List (Nat × Nat × Bool)} (h : okAc ms i b w ac = true) {j : Nat} {w2 : Bool} (hm : (j, b, w2) ∈ ac) (hw : w2 = true ∨ w = true) : anc ms i j = true := by
  have := List.all_eq_true.1 h _ hm
  have hw' : (w || w2) = true := by rcases hw with h | h <;> simp [h]
  simpa [hw'] using this
/-- What the checks of one operation say of it and those ahead of it. -/
theorem pair_of {lg : DL} {dn : List Rec} {pu : List Nat} {y : Rec} (hlg : LgOK P W0 TT pu ops ms lf lg dn) (hsl : okSlots ops ms lg.ds y.i (looks y.gu y.o) = true) (hno : y.i ∉ lg.ds) (hoy : ops[y.i]? = some y.o)
    (hm : kd TT pu y = some .m → ∀ p ∈ lg.ms, anc ms y.i p.1 = true) (hn : kd TT pu y = some .n → ∀ j ∈ lg.ps, anc ms y.i j = true) (ha : ∀ b w, acc y = some (b, w) → okAc ms y.i b w lg.ac = true)
    (h1 : (kd TT pu y = some .l ∨ kd TT pu y = some .p) → ∀ p ∈ lg.ms, anc ms y.i p.1 = false → Again P W0 TT pu y p.2)
    (h2 : kd TT pu y = some .m → ∀ p ∈ lg.rs, anc ms y.i p.1 = false → ∃ r', (p.2 y.h' r').lf = some lf) : ∀ x ∈ dn, Pair P W0 TT pu ms x y := fun x hx => by
  have ho := hlg.op x hx
  have hxd : x.i ∈ lg.ds := (hlg.ds x.i).2 ⟨x, hx, rfl⟩
  refine ⟨fun e => hno (e ▸ hxd), fun d hd hl => (okSlots_spec hsl ho hd hl).1 hxd, fun d hd hl => hlg.sl x hx y.i y.o d hoy hd hl hno, fun k1 k2 => hm k2 _ (hlg.ms x hx k1), fun k1 k2 => hn k1 _ (hlg.ps x hx k2), fun b w1 w2 a1 a2 hw => okAc_spec (ha b w2 a2) (hlg.ac x hx b w1 a1) hw, fun k1 k2 hf => h1 k2 _ (hlg.ms x hx k1) hf, fun k1 k2 hf => ?_⟩
  obtain ⟨f, f1, f2⟩ := hlg.rs x hx k2
  obtain ⟨r', hr'⟩ := h2 k1 _ f1 hf
  exact f2 _ _ hr'
/-- The log behind one more operation. -/
theorem lg_of {lg lg' : DL} {dn : List Rec} {pu : List Nat} {y : Rec} (hlg : LgOK P W0 TT pu ops ms lf lg dn) (hsl : okSlots ops ms lg.ds y.i (looks y.gu y.o) = true) (hoy : ops[y.i]? = some y.o)
    (e1 : lg'.ds = y.i :: lg.ds) (e2 : lg'.dn = addD y.o lg.dn) (e3 : lg'.ms = lg.ms ∧ kd TT pu y ≠ some .m ∨ lg'.ms = (y.i, y.h) :: lg.ms) (e4 : lg'.ps = lg.ps ∧ kd TT pu y ≠ some .m ∧ kd TT pu y ≠ some .p ∨ lg'.ps = y.i :: lg.ps)
    (e5 : lg'.rs = lg.rs ∧ kd TT pu y ≠ some .l ∧ kd TT pu y ≠ some .p ∨ ∃ f, lg'.rs = (y.i, f) :: lg.rs ∧ ∀ h r, (f h r).lf = some lf → r.lf = some lf ∧ Again P W0 TT pu y h)
    (e6 : lg'.ac = lg.ac ∧ acc y = none ∨ ∃ b w, acc y = some (b, w) ∧ lg'.ac = (y.i, b, w) :: lg.ac) : LgOK P W0 TT pu ops ms lf lg' (y :: dn) where
  op x hx := by
    rcases List.mem_cons.1 hx with rfl | hx
    · exact hoy
    · exact hlg.op x hx
  sl x hx j o d ho hd hl hj := by
    rw [e1] at hj
    rcases List.mem_cons.1 hx with rfl | hx
    · exact (okSlots_spec hsl ho hd hl).2 fun h => hj (by simp [h])
    · exact hlg.sl x hx j o d ho hd hl fun h => hj (by simp [h])
  ds i := by
    rw [e1, List.mem_cons, hlg.ds]
    constructor
    · rintro (rfl | ⟨x, h1, h2⟩)
      · exact ⟨y, by simp, rfl⟩
      · exact ⟨x, by simp [h1], h2⟩
    · rintro ⟨x, h1, h2⟩
      rcases List.mem_cons.1 h1 with rfl | h1
      · exact .inl h2.symm
      · exact .inr ⟨x, h1, h2⟩
  len := by rw [e1, List.length_cons, List.length_cons, hlg.len]
  dd d hd := by
    rw [e2] at hd
    unfold addD at hd
    cases hy : y.o.dst with
    | none =>
      rw [hy] at hd
      obtain ⟨x, h1, h2⟩ := hlg.dd d hd
      exact ⟨x, by simp [h1], h2⟩
    | some d' =>
      rw [hy] at hd
      rcases List.mem_cons.1 hd with rfl | hd
      · exact ⟨y, by simp, hy⟩
      · obtain ⟨x, h1, h2⟩ := hlg.dd d hd
        exact ⟨x, by simp [h1], h2⟩
  ms x hx k1 := by
    rcases List.mem_cons.1 hx with rfl | hx
    · rcases e3 with ⟨_, e3⟩ | e3
      · exact absurd k1 e3
      · rw [e3]; simp
    · rcases e3 with ⟨e3, _⟩ | e3 <;> rw [e3]
      · exact hlg.ms x hx k1
      · exact List.mem_cons_of_mem _ (hlg.ms x hx k1)
  ps x hx k1 := by
    rcases List.mem_cons.1 hx with rfl | hx
    · rcases e4 with ⟨_, e4, e4'⟩ | e4
      · rcases k1 with k1 | k1
        · exact absurd k1 e4
        · exact absurd k1 e4'
      · rw [e4]; simp
    · rcases e4 with ⟨e4, _⟩ | e4 <;> rw [e4]
      · exact hlg.ps x hx k1
      · exact List.mem_cons_of_mem _ (hlg.ps x hx k1)
  rs x hx k1 := by
    rcases List.mem_cons.1 hx with rfl | hx
    · rcases e5 with ⟨_, e5, e5'⟩ | ⟨f, e5, e5'⟩
      · rcases k1 with k1 | k1
        · exact absurd k1 e5
        · exact absurd k1 e5'
      · exact ⟨f, by rw [e5]; simp, fun h r hl => (e5' h r hl).2⟩
    · obtain ⟨f, f1, f2⟩ := hlg.rs x hx k1
      rcases e5 with ⟨e5, _⟩ | ⟨_, e5, _⟩
      · exact ⟨f, by rw [e5]; exact f1, f2⟩
      · exact ⟨f, by rw [e5]; exact List.mem_cons_of_mem _ f1, f2⟩
  rsr p hp h r hl := by
    rcases e5 with ⟨e5, _⟩ | ⟨f, e5, e5'⟩
    · rw [e5] at hp; exact hlg.rsr p hp h r hl
    · rw [e5] at hp
      rcases List.mem_cons.1 hp with rfl | hp
      · exact (e5' h r hl).1
      · exact hlg.rsr p hp h r hl
  ac x hx b w k1 := by
    rcases List.mem_cons.1 hx with rfl | hx
    · rcases e6 with ⟨_, e6⟩ | ⟨b', w', e6, e6'⟩
      · rw [e6] at k1; cases k1
      · rw [e6] at k1; cases k1; rw [e6']; simp
    · rcases e6 with ⟨e6, _⟩ | ⟨b', w', _, e6⟩ <;> rw [e6]
      · exact hlg.ac x hx b w k1
      · exact List.mem_cons_of_mem _ (hlg.ac x hx b w k1)
theorem drun_rec (hΓ : Γ.T = TT) (hT : TabOK P TT) (hB : TabB P TT) (hF : TabF P TT) (hk : CallOK P W0 k) {K : E → H → R} : ∀ (l : List Nat) (lg : DL) (env : E) (h : H) (dn : List Rec), (drun Γ k ops ms l lg env h K).lf = some lf → LgOK P W0 TT Γ.pu ops ms lf lg dn →
    ∃ rs env' h', (K env' h').lf = some lf ∧ Chain env h rs env' h' ∧ AllOK P W0 n0 nt TT Γ.pu Γ.pv ops dn rs ∧ (∀ x ∈ dn, ∀ y ∈ rs, Pair P W0 TT Γ.pu ms x y) ∧ rs.Pairwise (Pair P W0 TT Γ.pu ms) ∧ dn.length + rs.length = ops.length
  | [], lg, env, h, dn, hl, hlg => by
    rcases bb_lf hl with ⟨hb, hl⟩ | ⟨_, hl⟩
    · exact ⟨[], env, h, hl, ⟨rfl, rfl⟩, trivial, fun _ _ y hy => by simp at hy, .nil, by rw [← hlg.len]; exact beq hb⟩
    · exact bad_lf hl
  | i :: r, lg, env, h, dn, hl, hlg => by
    unfold drun at hl
    split at hl
    · exact bad_lf (tid_lf hl)
    · rename_i o ho
      split at hl
      · exact bad_lf (tid_lf hl)
      · rename_i gu hg
        rcases bb_lf hl with ⟨hb, hl⟩ | ⟨_, hl⟩
        · rw [Bool.and_eq_true, Bool.and_eq_true, Bool.and_eq_true] at hb
          obtain ⟨⟨⟨b1, b2⟩, b3⟩, b4⟩ := hb
          have hno : i ∉ lg.ds := fun hm => by rw [(hasN_iff _ _).2 hm] at b1; cases b1
          have hsl : okSlots ops ms lg.ds i (looks gu o) = true := b4
          obtain ⟨env1, h1, ac, hl, hd⟩ := dop_sound (n0 := n0) (nt := nt) hΓ hT hB hF hk hl
          generalize hy : (⟨i, o, gu, env, h, env1, h1, ac⟩ : Rec) = y
          have hrec : RecOK P W0 n0 nt TT Γ.pu Γ.pv ops dn y := by
            subst hy
            refine ⟨ho, hg, hd, fun k hk => (hlg.ds k).1 ((hasN_iff _ _).1 (List.all_eq_true.1 b3 k hk)), fun g u e => ?_⟩
            have e : gu = some (g, u) := e
            subst e
            exact hlg.dd g ((hasN_iff _ _).1 b2)
          have hfin : ∀ lg', (drun Γ k ops ms r lg' env1 h1 K).lf = some lf → LgOK P W0 TT Γ.pu ops ms lf lg' (y :: dn) → (∀ x ∈ dn, Pair P W0 TT Γ.pu ms x y) →
              ∃ rs env' h', (K env' h').lf = some lf ∧ Chain env h rs env' h' ∧ AllOK P W0 n0 nt TT Γ.pu Γ.pv ops dn rs ∧ (∀ x ∈ dn, ∀ y ∈ rs, Pair P W0 TT Γ.pu ms x y) ∧ rs.Pairwise (Pair P W0 TT Γ.pu ms) ∧ dn.length + rs.length = ops.length := fun lg' hl' hlg' hp => by
            obtain ⟨rs, env', h', q1, q2, q3, q4, q5, q6⟩ := drun_rec hΓ hT hB hF hk r lg' env1 h1 (y :: dn) hl' hlg'
            refine ⟨y :: rs, env', h', q1, by subst hy; exact ⟨rfl, rfl, q2⟩, ⟨hrec, q3⟩, fun x hx z hz => ?_, .cons (q4 y (by simp)) q5, by rw [List.length_cons] at q6 ⊢; omega⟩
            rcases List.mem_cons.1 hz with rfl | hz
            · exact hp x hx
            · exact q4 x (by simp [hx]) z hz
          have hsl' : okSlots ops ms lg.ds y.i (looks y.gu y.o) = true := by subst hy; exact hsl
          have hno' : y.i ∉ lg.ds := by subst hy; exact hno
          have hoy : ops[y.i]? = some y.o := by subst hy; exact ho
          have hrr : ∀ h2 r', (rerun Γ k gu o env (dval o env1) h2 r').lf = some lf → r'.lf = some lf ∧ Again P W0 TT Γ.pu y h2 := fun h2 r' hl => by
            subst hy
            exact rerun_lf hΓ hT hB hF hk hl
          cases ac with
          | no =>
            have hkd : kd TT Γ.pu y = none := by subst hy; rfl
            have hac : acc y = none := by subst hy; rfl
            refine hfin _ hl (lg_of hlg hsl' hoy (by subst hy; rfl) (by subst hy; rfl) (.inl ⟨rfl, by rw [hkd]; simp⟩) (.inl ⟨rfl, by rw [hkd]; simp, by rw [hkd]; simp⟩) (.inl ⟨rfl, by rw [hkd]; simp, by rw [hkd]; simp⟩) (.inl ⟨rfl, hac⟩)) (pair_of hlg hsl' hno' hoy ?_ ?_ ?_ ?_ ?_)
            · rw [hkd]; simp
            · rw [hkd]; simp
            · rw [hac]; simp
            · rw [hkd]; simp
            · rw [hkd]; simp
          | rd b =>
            have hkd : kd TT Γ.pu y = none := by subst hy; rfl
            have hac : acc y = some (b, false) := by subst hy; rfl
            rcases bb_lf hl with ⟨hb, hl⟩ | ⟨_, hl⟩
            · refine hfin _ hl (lg_of hlg hsl' hoy (by subst hy; rfl) (by subst hy; rfl) (.inl ⟨rfl, by rw [hkd]; simp⟩) (.inl ⟨rfl, by rw [hkd]; simp, by rw [hkd]; simp⟩) (.inl ⟨rfl, by rw [hkd]; simp, by rw [hkd]; simp⟩) (.inr ⟨b, false, hac, by subst hy; rfl⟩)) (pair_of hlg hsl' hno' hoy ?_ ?_ ?_ ?_ ?_)
              · rw [hkd]; simp
              · rw [hkd]; simp
              · intro b' w' e; rw [hac] at e; cases e; subst hy; exact hb
              · rw [hkd]; simp
              · rw [hkd]; simp
            · exact bad_lf hl
          | wr b =>
            have hkd : kd TT Γ.pu y = none := by subst hy; rfl
            have hac : acc y = some (b, true) := by subst hy; rfl
            rcases bb_lf hl with ⟨hb, hl⟩ | ⟨_, hl⟩
            · refine hfin _ hl (lg_of hlg hsl' hoy (by subst hy; rfl) (by subst hy; rfl) (.inl ⟨rfl, by rw [hkd]; simp⟩) (.inl ⟨rfl, by rw [hkd]; simp, by rw [hkd]; simp⟩) (.inl ⟨rfl, by rw [hkd]; simp, by rw [hkd]; simp⟩) (.inr ⟨b, true, hac, by subst hy; rfl⟩)) (pair_of hlg hsl' hno' hoy ?_ ?_ ?_ ?_ ?_)
              · rw [hkd]; simp
              · rw [hkd]; simp
              · intro b' w' e; rw [hac] at e; cases e; subst hy; exact hb
              · rw [hkd]; simp
              · rw [hkd]; simp
            · exact bad_lf hl
          | op =>
            have hac : acc y = none := by subst hy; rfl
            have hkd0 : kd TT Γ.pu y = some (kindOf TT Γ.pu o.op) := by subst hy; rfl
            simp only at hl
            rw [hΓ] at hl
            cases hkk : kindOf TT Γ.pu o.op with
            | v =>
              rw [hkk] at hl hkd0
              refine hfin _ hl (lg_of hlg hsl' hoy (by subst hy; rfl) (by subst hy; rfl) (.inl ⟨rfl, by rw [hkd0]; simp⟩) (.inl ⟨rfl, by rw [hkd0]; simp, by rw [hkd0]; simp⟩) (.inl ⟨rfl, by rw [hkd0]; simp, by rw [hkd0]; simp⟩) (.inl ⟨rfl, hac⟩)) (pair_of hlg hsl' hno' hoy ?_ ?_ ?_ ?_ ?_)
              · rw [hkd0]; simp
              · rw [hkd0]; simp
              · rw [hac]; simp
              · rw [hkd0]; simp
              · rw [hkd0]; simp
            | l =>
              rw [hkk] at hl hkd0
              obtain ⟨hl, hag⟩ := again1_lf hrr _ hl
              refine hfin _ hl (lg_of hlg hsl' hoy (by subst hy; rfl) (by subst hy; rfl) (.inl ⟨rfl, by rw [hkd0]; simp⟩) (.inl ⟨rfl, by rw [hkd0]; simp, by rw [hkd0]; simp⟩) (.inr ⟨_, by subst hy; rfl, hrr⟩) (.inl ⟨rfl, hac⟩)) (pair_of hlg hsl' hno' hoy ?_ ?_ ?_ ?_ ?_)
              · rw [hkd0]; simp
              · rw [hkd0]; simp
              · rw [hac]; simp
              · intro _ p hp hf; exact hag p hp (by subst hy; exact hf)
              · rw [hkd0]; simp
            | p =>
              rw [hkk] at hl hkd0
              obtain ⟨hl, hag⟩ := again1_lf hrr _ hl
              refine hfin _ hl (lg_of hlg hsl' hoy (by subst hy; rfl) (by subst hy; rfl) (.inl ⟨rfl, by rw [hkd0]; simp⟩) (.inr (by subst hy; rfl)) (.inr ⟨_, by subst hy; rfl, hrr⟩) (.inl ⟨rfl, hac⟩)) (pair_of hlg hsl' hno' hoy ?_ ?_ ?_ ?_ ?_)
              · rw [hkd0]; simp
              · rw [hkd0]; simp
              · rw [hac]; simp
              · intro _ p hp hf; exact hag p hp (by subst hy; exact hf)
              · rw [hkd0]; simp
            | n =>
              rw [hkk] at hl hkd0
              rcases bb_lf hl with ⟨hb, hl⟩ | ⟨_, hl⟩
              · refine hfin _ hl (lg_of hlg hsl' hoy (by subst hy; rfl) (by subst hy; rfl) (.inl ⟨rfl, by rw [hkd0]; simp⟩) (.inl ⟨rfl, by rw [hkd0]; simp, by rw [hkd0]; simp⟩) (.inl ⟨rfl, by rw [hkd0]; simp, by rw [hkd0]; simp⟩) (.inl ⟨rfl, hac⟩)) (pair_of hlg hsl' hno' hoy ?_ ?_ ?_ ?_ ?_)
                · rw [hkd0]; simp
                · intro _ j hj; subst hy; exact List.all_eq_true.1 hb j hj
                · rw [hac]; simp
                · rw [hkd0]; simp
                · rw [hkd0]; simp
              · exact bad_lf hl
            | m =>
              rw [hkk] at hl hkd0
              rcases bb_lf hl with ⟨hb, hl⟩ | ⟨_, hl⟩
              · obtain ⟨hl, hag⟩ := again2_lf _ hlg.rsr hl
                refine hfin _ hl (lg_of hlg hsl' hoy (by subst hy; rfl) (by subst hy; rfl) (.inr (by subst hy; rfl)) (.inr (by subst hy; rfl)) (.inl ⟨rfl, by rw [hkd0]; simp, by rw [hkd0]; simp⟩) (.inl ⟨rfl, hac⟩)) (pair_of hlg hsl' hno' hoy ?_ ?_ ?_ ?_ ?_)
                · intro _ p hp; subst hy; exact List.all_eq_true.1 hb p hp
                · rw [hkd0]; simp
                · rw [hac]; simp
                · rw [hkd0]; simp
                · intro _ p hp hf; subst hy; exact hag p hp hf
              · exact bad_lf hl
        · exact bad_lf hl
end
end Go.X1

set_option maxRecDepth 100000
namespace Go.X1
variable [Nu]
open Go.Region (ready binds)
/-! The first of its kind -/
def fstF (Q : Nat → Bool) : Nat → Nat → Nat
  | p, 0 => p
  | p, f + 1 => match Q p with | true => p | false => fstF Q (p + 1) f
theorem fstF_spec (Q : Nat → Bool) : ∀ f p, p ≤ fstF Q p f ∧ fstF Q p f ≤ p + f ∧ (∀ x, p ≤ x → x < fstF Q p f → Q x = false) ∧ (fstF Q p f < p + f → Q (fstF Q p f) = true)
  | 0, p => ⟨Nat.le_refl _, Nat.le_refl _, fun x h1 h2 => by have h2 : x < p := h2; omega, fun h => by have h : p < p + 0 := h; omega⟩
  | f + 1, p => by
    cases hq : Q p with
    | true =>
      have e : fstF Q p (f + 1) = p := by rw [fstF, hq]
      rw [e]
      exact ⟨Nat.le_refl _, by omega, fun x h1 h2 => by omega, fun _ => hq⟩
    | false =>
      have e : fstF Q p (f + 1) = fstF Q (p + 1) f := by rw [fstF, hq]
      rw [e]
      obtain ⟨h1, h2, h3, h4⟩ := fstF_spec Q f (p + 1)
      refine ⟨by omega, by omega, fun x g1 g2 => ?_, fun h => h4 (by omega)⟩
      by_cases hx : x = p
      · subst hx; exact hq
      · exact h3 x (by omega) g2
theorem nodup_bound : ∀ (n : Nat) (l : List Nat), l.Nodup → (∀ x ∈ l, x < n) → l.length ≤ n
  | 0, l, _, h => by
    cases l with
    | nil => simp
    | cons x l => exact absurd (h x (by simp)) (Nat.not_lt_zero _)
  | n + 1, l, hn, h => by
    have h1 := nodup_bound n (l.erase n) (hn.erase n) fun x hx => by
      have := (hn.mem_erase_iff).1 hx
      have := h x this.2
      omega
    have := List.length_erase (a := n) (l := l)
    split at this <;> omega
theorem nodup_all {n : Nat} {l : List Nat} (hn : l.Nodup) (h : ∀ x ∈ l, x < n) (hl : l.length = n) {i : Nat} (hi : i < n) : i ∈ l := by
  apply Classical.byContradiction
  intro hm
  have := nodup_bound n (i :: l) (List.nodup_cons.2 ⟨hm, hn⟩) fun x hx => by
    rcases List.mem_cons.1 hx with rfl | hx
    · exact hi
    · exact h x hx
  simp at this
  omega
structure Can (P : Program) (W0 : World) (n0 nt : Nat) (T : List TI) (pu pv : List Nat) (ops : List Oper) (R : Nat → Rec) (Es : Nat → E) (Hs : Nat → H) : Prop where
  e : ∀ p, p < ops.length → (R p).e = Es p ∧ (R p).h = Hs p ∧ (R p).e' = Es (p + 1) ∧ (R p).h' = Hs (p + 1)
  op : ∀ p, p < ops.length → ops[(R p).i]? = some (R p).o
  gu : ∀ p, p < ops.length → guardOf ops (R p).o = some (R p).gu
  dop : ∀ p, p < ops.length → Dop P W0 n0 nt T pu pv (R p).gu (R p).o (Es p) (Hs p) (Es (p + 1)) (Hs (p + 1)) (R p).ac
  deps : ∀ p, p < ops.length → ∀ k ∈ deps (R p).o, ∃ p', p' < p ∧ (R p').i = k
  g : ∀ p, p < ops.length → ∀ g u, (R p).gu = some (g, u) → ∃ p', p' < p ∧ (R p').o.dst = some g
  pair : ∀ p p', p < p' → p' < ops.length → Pair P W0 T pu (masks ops []) (R p) (R p')
  np : NoPg (Es 0)
  nd : nodupD nt ops = true
theorem nodupD_spec {nt : Nat} : ∀ {ops : List Oper}, nodupD nt ops = true → ∀ (i : Nat) (o : Oper) (d : Nat), ops[i]? = some o → o.dst = some d → d < nt ∧ ∀ (j : Nat) (o' : Oper), ops[j]? = some o' → o'.dst = some d → j = i
  | [], _, i, o, d, h, _ => by simp at h
  | x :: l, hn, i, o, d, h, hd => by
    obtain ⟨h1, h2⟩ := nodupD_cons hn
    cases i with
    | zero =>
      simp at h
      subst h
      refine ⟨(h1 d hd).1, fun j o' hj hd' => ?_⟩
      cases j with
      | zero => rfl
      | succ j =>
        exact absurd hd' ((h1 d hd).2 o' (List.mem_of_getElem? (by simpa using hj)))
    | succ i =>
      obtain ⟨q1, q2⟩ := nodupD_spec h2 i o d (by simpa using h) hd
      refine ⟨q1, fun j o' hj hd' => ?_⟩
      cases j with
      | zero =>
        simp at hj
        subst hj
        exact absurd hd ((h1 d hd').2 o (List.mem_of_getElem? (by simpa using h)))
      | succ j => rw [q2 j o' (by simpa using hj) hd']
/-- It writes there. -/
def wrt (r : Rec) : Lc → Bool
  | .s t => match r.o.dst with | some d => Nat.beq d t | none => false
  | .b n => match wrB r.ac with | some b => Nat.beq b n | none => false
theorem wrt_s {r : Rec} {t : Nat} : wrt r (.s t) = true ↔ r.o.dst = some t := by
  unfold wrt
  cases h : r.o.dst with
  | none => simp
  | some d => simp
theorem wrt_b {r : Rec} {b : Nat} : wrt r (.b b) = true ↔ r.ac = .wr b := by
  unfold wrt
  cases h : r.ac <;> simp [wrB]
/-- Alike at a place. -/
def AG (l : Lc) (e1 e2 : E) : Prop := match l with
  | .s t => eget e1.tm t = eget e2.tm t
  | .b b => bget e1.pb b = bget e2.pb b ∧ ∀ i, cget e1.cl b i = cget e2.cl b i
theorem AG.refl (l : Lc) (e : E) : AG l e e := by cases l; exact rfl; exact ⟨rfl, fun _ => rfl⟩
theorem AG.trans {l : Lc} {e1 e2 e3 : E} (h : AG l e1 e2) (g : AG l e2 e3) : AG l e1 e3 := by
  cases l
  · exact Eq.trans h g
  · exact ⟨h.1.trans g.1, fun i => (h.2 i).trans (g.2 i)⟩
section
variable {P : Program} {TT : List TI} {W0 : World} {n0 nt : Nat} {pu pv : List Nat} {ops : List Oper} {R : Nat → Rec} {Es : Nat → E} {Hs : Nat → H}
theorem Can.uniq (C : Can P W0 n0 nt TT pu pv ops R Es Hs) {p p' : Nat} (hp : p < ops.length) (hp' : p' < ops.length) {d : Nat} (h : (R p).o.dst = some d) (h' : (R p').o.dst = some d) : p' = p := by
  obtain ⟨_, q⟩ := nodupD_spec C.nd _ _ d (C.op p hp) h
  have e := q _ _ (C.op p' hp') h'
  rcases Nat.lt_trichotomy p p' with hl | hl | hl
  · exact absurd e.symm (C.pair p p' hl hp').ne
  · exact hl.symm
  · exact absurd e (C.pair p' p hl hp).ne
/-- The states between which nothing is written there are alike there. -/
theorem Can.quiet (C : Can P W0 n0 nt TT pu pv ops R Es Hs) (l : Lc) (x : Nat) : ∀ d, x + d ≤ ops.length → (∀ p, x ≤ p → p < x + d → wrt (R p) l = false) → AG l (Es (x + d)) (Es x)
  | 0, _, _ => AG.refl _ _
  | d + 1, hd, hw => by
    have ih := C.quiet l x d (by omega) fun p h1 h2 => hw p h1 (by omega)
    have hc := (C.dop (x + d) (by omega)).1
    have hn := hw (x + d) (by omega) (by omega)
    refine AG.trans ?_ ih
    cases l with
    | s t => exact hc.slot t fun e => by rw [wrt_s.2 e] at hn; cases hn
    | b b => exact hc.base b fun e => by rw [wrt_b.2 e] at hn; cases hn
theorem Can.pgc (C : Can P W0 n0 nt TT pu pv ops R Es Hs) {t g b q : Nat} {u : Bool} : ∀ r, r ≤ ops.length → eget (Es r).tm t = .pg g u b q → ∃ p, p < r ∧ (R p).o.dst = some t ∧ (R p).gu = some (g, u)
  | 0, _, e => absurd e (C.np t g u b q)
  | r + 1, hr, e => by
    have hc := (C.dop r (by omega)).1
    by_cases ht : (R r).o.dst = some t
    · rcases hc.pg t g u b q e with h | h
      · obtain ⟨p, p1, p2, p3⟩ := C.pgc r (by omega) h
        exact ⟨p, by omega, p2, p3⟩
      · exact ⟨r, by omega, ht, h⟩
    · rw [hc.slot t ht] at e
      obtain ⟨p, p1, p2, p3⟩ := C.pgc r (by omega) e
      exact ⟨p, by omega, p2, p3⟩
/-! What has come -/
structure LInv (ops : List Oper) (L : Array Bool) : Prop where
  size : L.size = ops.length
  closed : ∀ i o, ops[i]? = some o → L.getD i false = true → ∀ k ∈ deps o, L.getD k false = true
def lb (R : Nat → Rec) (L : Array Bool) (p : Nat) : Bool := L.getD (R p).i false
theorem Can.li (C : Can P W0 n0 nt TT pu pv ops R Es Hs) {p : Nat} (hp : p < ops.length) : (R p).i < ops.length := by
  have := C.op p hp
  rcases Nat.lt_or_ge (R p).i ops.length with h | h
  · exact h
  · rw [List.getElem?_eq_none h] at this; cases this
theorem Can.inj (C : Can P W0 n0 nt TT pu pv ops R Es Hs) {p p' : Nat} (hp : p < ops.length) (hp' : p' < ops.length) (e : (R p).i = (R p').i) : p = p' := by
  rcases Nat.lt_trichotomy p p' with hl | hl | hl
  · exact absurd e (C.pair p p' hl hp').ne
  · exact hl
  · exact absurd e.symm (C.pair p' p hl hp).ne
theorem Can.surj (C : Can P W0 n0 nt TT pu pv ops R Es Hs) {i : Nat} (hi : i < ops.length) : ∃ p, p < ops.length ∧ (R p).i = i := by
  have h := nodup_all (n := ops.length) (l := (List.range ops.length).map fun p => (R p).i) (List.nodup_iff_pairwise_ne.2 (by
    rw [List.pairwise_map]
    refine List.Pairwise.imp_of_mem (fun {a b} ha hb hab e => ?_) List.pairwise_lt_range
    have := C.inj (List.mem_range.1 ha) (List.mem_range.1 hb) e
    omega)) (fun x hx => by
      obtain ⟨p, h1, rfl⟩ := List.mem_map.1 hx
      exact C.li (List.mem_range.1 h1)) (by simp) hi
  obtain ⟨p, h1, h2⟩ := List.mem_map.1 h
  exact ⟨p, List.mem_range.1 h1, h2⟩
variable {L : Array Bool}
/-- It has come where one that waits for it has. -/
theorem Can.anc_lb (C : Can P W0 n0 nt TT pu pv ops R Es Hs) (hL : LInv ops L) {p p' : Nat} (hp : p < ops.length) (h : lb R L p = true ∨ ∀ k ∈ Go.X1.deps (R p).o, L.getD k false = true) (ha : anc (masks ops []) (R p).i (R p').i = true) : lb R L p' = true :=
  anc_listed (L := fun i => L.getD i false = true) hL.closed _ _ _ (Nat.lt_succ_self _) (C.op p hp) (h.elim (fun h => hL.closed _ _ (C.op p hp) h) id) _ ha
def RW (R : Nat → Rec) (n : Nat) (L : Array Bool) (l : Lc) : Nat := fstF (fun p => wrt (R p) l && !lb R L p) 0 n
def VL (R : Nat → Rec) (Es : Nat → E) (n : Nat) (L : Array Bool) (l : Lc) : E := Es (RW R n L l)
theorem rw_spec (R : Nat → Rec) (n : Nat) (L : Array Bool) (l : Lc) : RW R n L l ≤ n ∧ (∀ p, p < RW R n L l → wrt (R p) l = true → lb R L p = true) ∧ (RW R n L l < n → wrt (R (RW R n L l)) l = true ∧ lb R L (RW R n L l) = false) := by
  obtain ⟨_, h2, h3, h4⟩ := fstF_spec (fun p => wrt (R p) l && !lb R L p) n 0
  refine ⟨by rw [Nat.zero_add] at h2; exact h2, fun p hp hw => ?_, fun hlt => ?_⟩
  · have := h3 p (Nat.zero_le _) hp
    rw [hw] at this
    simpa using this
  · have := h4 (by rw [Nat.zero_add]; exact hlt)
    rw [Bool.and_eq_true] at this
    refine ⟨this.1, ?_⟩
    have h := this.2
    rw [Bool.not_eq_true'] at h
    exact h
/-- Where those ahead that write there have come, and none behind, it is as it is now. -/
theorem Can.at (C : Can P W0 n0 nt TT pu pv ops R Es Hs) (l : Lc) {p : Nat} (hp : p ≤ ops.length) (h1 : ∀ p', p' < p → wrt (R p') l = true → lb R L p' = true) (h2 : ∀ p', p ≤ p' → p' < ops.length → wrt (R p') l = true → lb R L p' = false) : AG l (VL R Es ops.length L l) (Es p) := by
  obtain ⟨r1, r2, r3⟩ := rw_spec R ops.length L l
  have hle : p ≤ RW R ops.length L l := by
    rcases Nat.lt_or_ge (RW R ops.length L l) p with h | h
    · obtain ⟨q1, q2⟩ := r3 (by omega)
      rw [h1 _ h q1] at q2; cases q2
    · exact h
  unfold VL
  have := C.quiet l p (RW R ops.length L l - p) (by omega) fun p' g1 g2 => by
    cases hw : wrt (R p') l
    · rfl
    · have a1 := r2 p' (by omega) hw
      rw [h2 p' g1 (by omega) hw] at a1; cases a1
  rwa [show p + (RW R ops.length L l - p) = RW R ops.length L l by omega] at this
theorem Can.la (C : Can P W0 n0 nt TT pu pv ops R Es Hs) (hL : LInv ops L) {p : Nat} (hp : p < ops.length) (hno : lb R L p = false) (hd : ∀ k ∈ Go.X1.deps (R p).o, L.getD k false = true) : LA (VL R Es ops.length L) (Es p) (looks (R p).gu (R p).o) := fun t ht => by
  refine C.at (.s t) (Nat.le_of_lt hp) (fun p' h1 hw => ?_) fun p' h1 h2 hw => ?_
  · exact C.anc_lb hL hp (.inr hd) ((C.pair p' p h1 hp).s1 t (wrt_s.1 hw) ht)
  · cases hb : lb R L p' with
    | false => rfl
    | true =>
      by_cases e : p = p'
      · subst e; rw [hno] at hb; cases hb
      · have := C.anc_lb hL h2 (.inl hb) ((C.pair p p' (by omega) h2).s2 t (wrt_s.1 hw) ht)
        rw [hno] at this; cases this
theorem acc_wr {r : Rec} {b : Nat} (h : r.ac = .wr b) : acc r = some (b, true) := by unfold acc; rw [h]
theorem acc_rd {r : Rec} {b : Nat} (h : r.ac = .rd b) : acc r = some (b, false) := by unfold acc; rw [h]
theorem Can.ba (C : Can P W0 n0 nt TT pu pv ops R Es Hs) (hL : LInv ops L) {p : Nat} (hp : p < ops.length) (hno : lb R L p = false) (hd : ∀ k ∈ Go.X1.deps (R p).o, L.getD k false = true) {b : Nat} {w : Bool} (hb : acc (R p) = some (b, w)) : BA (VL R Es ops.length L) (Es p) b := by
  refine C.at (.b b) (Nat.le_of_lt hp) (fun p' h1 hw => ?_) fun p' h1 h2 hw => ?_
  · exact C.anc_lb hL hp (.inr hd) ((C.pair p' p h1 hp).ac b true w (acc_wr (wrt_b.1 hw)) hb (.inl rfl))
  · cases hbb : lb R L p' with
    | false => rfl
    | true =>
      by_cases e : p = p'
      · subst e; rw [hno] at hbb; cases hbb
      · have := C.anc_lb hL h2 (.inl hbb) ((C.pair p p' (by omega) h2).ac b w true hb (acc_wr (wrt_b.1 hw)) (.inr rfl))
        rw [hno] at this; cases this
theorem Can.pgi (C : Can P W0 n0 nt TT pu pv ops R Es Hs) (hL : LInv ops L) {p : Nat} (hp : p < ops.length) (hno : lb R L p = false) : ∀ t g u b q, eget (VL R Es ops.length L (.s t)).tm t = .pg g u b q → (R p).o.dst ≠ some g := fun t g u b q e hg => by
  obtain ⟨r1, r2, r3⟩ := rw_spec R ops.length L (.s t)
  obtain ⟨p', p1, p2, p3⟩ := C.pgc _ r1 e
  have hl := r2 p' p1 (wrt_s.2 p2)
  obtain ⟨p2', q1, q2⟩ := C.g p' (by omega) g u p3
  have := C.uniq hp (by omega : p2' < ops.length) hg q2
  subst this
  have := C.anc_lb hL (by omega : p' < ops.length) (.inl hl) ((C.pair p2' p' q1 (by omega)).s1 g q2 (by rw [p3]; simp [looks]))
  rw [hno] at this; cases this
theorem getD_set (L : Array Bool) (i j : Nat) (hi : i < L.size) : (L.setIfInBounds i true).getD j false = if i = j then true else L.getD j false := by
  by_cases h : i = j
  · subst h; simp [hi]
  · simp only [Array.getD_eq_getD_getElem?]
    rw [Array.getElem?_setIfInBounds_ne h, if_neg h]
theorem Can.lb_set (C : Can P W0 n0 nt TT pu pv ops R Es Hs) (hL : LInv ops L) {p p' : Nat} (hp : p < ops.length) (hp' : p' < ops.length) : lb R (L.setIfInBounds (R p).i true) p' = if p = p' then true else lb R L p' := by
  unfold lb
  rw [getD_set L _ _ (by rw [hL.size]; exact C.li hp)]
  by_cases e : p = p'
  · subst e; rw [if_pos rfl, if_pos rfl]
  · rw [if_neg e, if_neg fun h => e (C.inj hp hp' h)]
theorem LInv.set (hL : LInv ops L) {i : Nat} {o : Oper} (ho : ops[i]? = some o) (hi : i < ops.length) (hd : ∀ k ∈ deps o, L.getD k false = true) : LInv ops (L.setIfInBounds i true) where
  size := by simp [hL.size]
  closed j o' ho' h k hk := by
    rw [getD_set L _ _ (by rw [hL.size]; exact hi)] at h ⊢
    by_cases e : i = k
    · rw [if_pos e]
    · rw [if_neg e]
      by_cases e2 : i = j
      · subst e2
        rw [ho] at ho'
        cases ho'
        exact hd k hk
      · rw [if_neg e2] at h
        exact hL.closed j o' ho' h k hk
theorem fstF_congr {Q Q' : Nat → Bool} : ∀ f p, (∀ x, p ≤ x → x < p + f → Q x = Q' x) → fstF Q p f = fstF Q' p f
  | 0, _, _ => rfl
  | f + 1, p, h => by
    rw [fstF, fstF, h p (Nat.le_refl _) (by omega), fstF_congr f (p + 1) fun x h1 h2 => h x (by omega) (by omega)]
/-- The slots and variables behind an operation. -/
theorem Can.sv_next (C : Can P W0 n0 nt TT pu pv ops R Es Hs) (hL : LInv ops L) {p : Nat} (hp : p < ops.length) (hno : lb R L p = false) (hd : ∀ k ∈ Go.X1.deps (R p).o, L.getD k false = true) {α : Al} {β : Be} {w : World} {a : Act}
    (hs : SV n0 nt (upd (VL R Es ops.length L) (R p).o.dst (wrB (R p).ac) (Es (p + 1))) α β w a) : SV n0 nt (VL R Es ops.length (L.setIfInBounds (R p).i true)) α β w a := by
  have key : ∀ l, AG l (VL R Es ops.length (L.setIfInBounds (R p).i true) l) (upd (VL R Es ops.length L) (R p).o.dst (wrB (R p).ac) (Es (p + 1)) l) := fun l => by
    have hu : upd (VL R Es ops.length L) (R p).o.dst (wrB (R p).ac) (Es (p + 1)) l = if wrt (R p) l = true then Es (p + 1) else VL R Es ops.length L l := by
      cases l with
      | s t =>
        by_cases h : (R p).o.dst = some t
        · rw [if_pos (wrt_s.2 h)]; exact if_pos h
        · rw [if_neg fun e => h (wrt_s.1 e)]; exact if_neg h
      | b b =>
        have hwb : wrB (R p).ac = some b ↔ (R p).ac = .wr b := by cases (R p).ac <;> simp [wrB]
        by_cases h : (R p).ac = .wr b
        · rw [if_pos (wrt_b.2 h)]; exact if_pos (hwb.2 h)
        · rw [if_neg fun e => h (wrt_b.1 e)]; exact if_neg fun e => h (hwb.1 e)
    rw [hu]
    by_cases hw : wrt (R p) l = true
    · rw [if_pos hw]
      refine C.at l (by omega) (fun p' h1 hw' => ?_) fun p' h1 h2 hw' => ?_
      · rw [C.lb_set hL hp (by omega)]
        by_cases e : p = p'
        · rw [if_pos e]
        · rw [if_neg e]
          cases l with
          | s t => exact absurd (C.uniq hp (by omega) (wrt_s.1 hw) (wrt_s.1 hw')).symm e
          | b b =>
            exact C.anc_lb hL hp (.inr hd) ((C.pair p' p (by omega) hp).ac b true true (acc_wr (wrt_b.1 hw')) (acc_wr (wrt_b.1 hw)) (.inl rfl))
      · rw [C.lb_set hL hp h2, if_neg (by omega)]
        cases hb : lb R L p' with
        | false => rfl
        | true =>
          exfalso
          cases l with
          | s t => have := C.uniq hp h2 (wrt_s.1 hw) (wrt_s.1 hw'); omega
          | b b =>
            have := C.anc_lb hL h2 (.inl hb) ((C.pair p p' (by omega) h2).ac b true true (acc_wr (wrt_b.1 hw)) (acc_wr (wrt_b.1 hw')) (.inl rfl))
            rw [hno] at this; cases this
    · rw [if_neg hw]
      have : RW R ops.length (L.setIfInBounds (R p).i true) l = RW R ops.length L l := by
        unfold RW
        refine fstF_congr _ _ fun x _ hx => ?_
        rw [C.lb_set hL hp (by omega)]
        by_cases e : p = x
        · subst e
          have : wrt (R p) l = false := by cases h : wrt (R p) l; rfl; exact absurd h hw
          rw [this]; rfl
        · rw [if_neg e]
      unfold VL
      rw [this]
      exact AG.refl _ _
  exact hs.congr (fun t => key (.s t)) fun b => key (.b b)
end
end Go.X1

set_option maxRecDepth 100000
namespace Go.X1
variable [Nu]
open Go.Region (ready binds)
section
variable {P : Program} {TT : List TI} {W0 : World} {n0 nt : Nat} {pu pv : List Nat} {ops : List Oper} {R : Nat → Rec} {Es : Nat → E} {Hs : Nat → H} {L : Array Bool}
theorem new_nx (h : H) (v : B) : (h.new v).nx = h.nx + 1 := by cases h; rfl
theorem new_ro (h : H) (v : B) : (h.new v).ro = h.ro := by cases h; rfl
theorem new_full {h : H} (hf : Full h.tr h.nx) (v : B) : Full (h.new v).tr (h.new v).nx ∧ ∀ b, tget .no (h.new v).tr b = if b = h.nx then v else tget .no h.tr b := by
  cases h with | mk t n r =>
  obtain ⟨q1, q2⟩ := full_set v t n n hf (Nat.le_refl _)
  rw [Nat.max_eq_right (by omega)] at q1
  exact ⟨q1, q2 .no⟩
/-- A step that is no more than a read, a call of what only reads, or a block made. -/
theorem Can.step_h (C : Can P W0 n0 nt TT pu pv ops R Es Hs) {p : Nat} (hp : p < ops.length) (hk : kd TT pu (R p) ≠ some .m) : Hs (p + 1) = Hs p ∨ (kd TT pu (R p) = some .n ∧ ∃ B, Hs (p + 1) = (Hs p).new B) := by
  obtain ⟨_, hd⟩ := C.dop p hp
  rcases hd with ⟨_, hac, x, _, ho⟩ | ⟨h, _⟩
  · have hkd : kd TT pu (R p) = some (kindOf TT pu (R p).o.op) := by unfold kd; rw [hac]
    rw [hkd] at hk ⊢
    cases hkk : kindOf TT pu (R p).o.op with
    | v => rw [hkk] at ho; exact .inl ho.1
    | l => rw [hkk] at ho; exact .inl ho.1
    | p => rw [hkk] at ho; exact .inl ho.1
    | n => rw [hkk] at ho; obtain ⟨f, B, _, h, _⟩ := ho; exact .inr ⟨rfl, B, h⟩
    | m => rw [hkk] at hk; exact absurd rfl hk
  · exact .inl h
def Qt (TT : List TI) (pu : List Nat) (R : Nat → Rec) (x y : Nat) : Prop := ∀ p, x ≤ p → p < y → kd TT pu (R p) ≠ some .m
/-- A stretch without more. -/
structure Qh (R : Nat → Rec) (TT : List TI) (pu : List Nat) (Hs : Nat → H) (x y : Nat) : Prop where
  full : Full (Hs y).tr (Hs y).nx
  nx : (Hs x).nx ≤ (Hs y).nx
  old : ∀ b, b < (Hs x).nx → tget .no (Hs y).tr b = tget .no (Hs x).tr b
  ro : (Hs y).ro = (Hs x).ro
  new : ∀ b, (Hs x).nx ≤ b → b < (Hs y).nx → ∃ z B, x ≤ z ∧ z < y ∧ kd TT pu (R z) = some .n ∧ Hs (z + 1) = (Hs z).new B ∧ b = (Hs z).nx
theorem Can.qh (C : Can P W0 n0 nt TT pu pv ops R Es Hs) (x : Nat) (hf : Full (Hs x).tr (Hs x).nx) : ∀ d, x + d ≤ ops.length → Qt TT pu R x (x + d) → Qh R TT pu Hs x (x + d)
  | 0, _, _ => ⟨hf, Nat.le_refl _, fun _ _ => rfl, rfl, fun b h1 h2 => by have h2 : b < (Hs x).nx := h2; omega⟩
  | d + 1, hd, hq => by
    have ih := C.qh x hf d (by omega) fun p h1 h2 => hq p h1 (by omega)
    rcases C.step_h (p := x + d) (by omega) (hq (x + d) (by omega) (by omega)) with h | ⟨hk, B, h⟩
    · have e : Hs (x + (d + 1)) = Hs (x + d) := h
      refine ⟨by rw [e]; exact ih.full, by rw [e]; exact ih.nx, fun b hb => by rw [e]; exact ih.old b hb, by rw [e]; exact ih.ro, fun b h1 h2 => ?_⟩
      rw [e] at h2
      obtain ⟨z, B, z1, z2, z3⟩ := ih.new b h1 h2
      exact ⟨z, B, z1, by omega, z3⟩
    · have e : Hs (x + (d + 1)) = (Hs (x + d)).new B := h
      obtain ⟨f1, f2⟩ := new_full ih.full B
      have := ih.nx
      refine ⟨by rw [e]; exact f1, by rw [e, new_nx]; omega, fun b hb => by rw [e, f2, if_neg (by omega)]; exact ih.old b hb, by rw [e, new_ro]; exact ih.ro, fun b h1 h2 => ?_⟩
      rw [e, new_nx] at h2
      by_cases hb : b = (Hs (x + d)).nx
      · exact ⟨x + d, B, by omega, by omega, hk, h, hb⟩
      · obtain ⟨z, B', z1, z2, z3⟩ := ih.new b h1 (by omega)
        exact ⟨z, B', z1, by omega, z3⟩
theorem HR.up {α : Al} {w : World} {x y : Nat} (hr : HR W0 α w (Hs x)) (q : Qh R TT pu Hs x y) : HR W0 α w (Hs y) where
  agr := hr.agr
  ro := by rw [q.ro]; exact Nat.le_trans hr.ro q.nx
  full := q.full
  dom b L e := let ⟨h1, h2, h3⟩ := hr.dom b L e; ⟨Nat.lt_of_lt_of_le h1 q.nx, h2.imp id fun e => by rw [q.ro]; exact e, h3⟩
  blk b L e := by rw [q.old b (hr.dom b L e).1]; exact hr.blk b L e
  dis b b' L L' e e' g g' h := by
    rw [q.old b (hr.dom b L e).1] at g
    rw [q.old b' (hr.dom b' L' e').1] at g'
    exact hr.dis b b' L L' e e' g g' h
theorem HR.down {α : Al} {w : World} {x y : Nat} (hr : HR W0 α w (Hs y)) (q : Qh R TT pu Hs x y) (hf : Full (Hs x).tr (Hs x).nx) (hro : (Hs x).ro ≤ (Hs x).nx) (hm : ∀ b L, α b = some L → b < (Hs x).nx) : HR W0 α w (Hs x) where
  agr := hr.agr
  ro := hro
  full := hf
  dom b L e := let ⟨_, h2, h3⟩ := hr.dom b L e; ⟨hm b L e, h2.imp id fun e => by rw [← q.ro]; exact e, h3⟩
  blk b L e := by rw [← q.old b (hm b L e)]; exact hr.blk b L e
  dis b b' L L' e e' g g' h := by
    rw [← q.old b (hm b L e)] at g
    rw [← q.old b' (hm b' L' e')] at g'
    exact hr.dis b b' L L' e e' g g' h
theorem Step.up {α0 α : Al} {w0 w : World} {h0 : H} {x y : Nat} (s : Step W0 α0 w0 h0 α w (Hs x)) (q : Qh R TT pu Hs x y) : Step W0 α0 w0 h0 α w (Hs y) where
  hr := s.hr.up q
  ext := s.ext
  fr := s.fr
  ro := ⟨q.ro.trans s.ro.ro, Nat.le_trans s.ro.nx q.nx, fun b hb => (q.old b (by have := s.hr.ro; rw [s.ro.ro] at this; omega)).trans (s.ro.keep b hb)⟩
  un b hb e := (q.old b (Nat.lt_of_lt_of_le hb s.ro.nx)).trans (s.un b hb e)
/-- A block that was made in the heap before it is there. -/
theorem Step.late {α0 α : Al} {w0 w : World} {h0 h : H} (s : Step W0 α0 w0 h0 α w h) {id : Nat} {L : Loc} {ob : Obj} {B0 : B} (hid : α id = none) (h1 : h0.nx ≤ id) (h2 : id < h.nx) (hB : tget .no h.tr id = B0) (hL' : L.At w.heap.size)
    (hb : ∀ α' w', Le α α' → w'.heap[w.heap.size]? = some ob → BR α' w' L B0) (h00 : α0 id = none) : Step W0 α0 w0 h0 (α.set id L) (w.alloc ob) h where
  hr := by
    have hL := hL'.1
    have hLz := hL'.2
    have hr := s.hr
    have hle := Al.le_set L hid
    have hag := agree_alloc w ob
    refine ⟨hr.agr.trans hag, hr.ro, hr.full, fun b L' e => ?_, fun b L' e => ?_, fun b b' L1 L2 e1 e2 g1 g2 eb => ?_⟩
    · rw [alloc_size]
      by_cases hb' : b = id
      · subst hb'
        rw [Al.set_same] at e
        cases e
        exact ⟨h2, .inl ⟨by rw [hL]; exact hr.agr.size, hLz⟩, by omega⟩
      · rw [α.set_ne L hb'] at e
        obtain ⟨q1, q2, q3⟩ := hr.dom b L' e
        exact ⟨q1, q2, by omega⟩
    · by_cases hb' : b = id
      · subst hb'
        rw [Al.set_same] at e
        cases e
        rw [hB]
        exact hb _ _ hle (alloc_heap w ob)
      · rw [α.set_ne L hb'] at e
        exact ((hr.blk b L' e).world (hag.heap _ (hr.dom b L' e).2.2)).mono hle
    · by_cases q1 : b = id <;> by_cases q2 : b' = id
      · rw [q1, q2]
      · subst q1
        rw [Al.set_same] at e1
        cases e1
        rw [α.set_ne L q2] at e2
        have := (hr.dom _ _ e2).2.2
        omega
      · subst q2
        rw [Al.set_same] at e2
        cases e2
        rw [α.set_ne L q1] at e1
        have := (hr.dom _ _ e1).2.2
        omega
      · rw [α.set_ne L q1] at e1
        rw [α.set_ne L q2] at e2
        exact hr.dis b b' L1 L2 e1 e2 g1 g2 eb
  ext := ⟨s.ext.le.trans (Al.le_set L hid), fun b L' e => by
    by_cases hb' : b = id
    · subst hb'
      rw [Al.set_same] at e
      cases e
      exact .inr ⟨h00, h1, .inl (by rw [hL'.1]; exact s.fr.size)⟩
    · rw [α.set_ne L hb'] at e
      exact s.ext.new b L' e⟩
  fr := ⟨Nat.le_trans s.fr.size (agree_alloc w ob).size, fun k hk hn => ((agree_alloc w ob).heap k (Nat.lt_of_lt_of_le hk s.fr.size)).trans (s.fr.keep k hk hn), s.fr.os, s.fr.out⟩
  ro := s.ro
  un := s.un
/-- The first call that is still to come. -/
def QL (TT : List TI) (pu : List Nat) (R : Nat → Rec) (n : Nat) (L : Array Bool) : Nat := fstF (fun p => (match kd TT pu (R p) with | some .m => true | _ => false) && !lb R L p) 0 n
theorem isM_iff {r : Rec} : (match kd TT pu r with | some .m => true | _ => false) = true ↔ kd TT pu r = some .m := by
  cases h : kd TT pu r with
  | none => simp
  | some k => cases k <;> simp
theorem ql_spec (TT : List TI) (pu : List Nat) (R : Nat → Rec) (n : Nat) (L : Array Bool) : QL TT pu R n L ≤ n ∧ (∀ p, p < QL TT pu R n L → kd TT pu (R p) = some .m → lb R L p = true) ∧ (QL TT pu R n L < n → kd TT pu (R (QL TT pu R n L)) = some .m ∧ lb R L (QL TT pu R n L) = false) := by
  obtain ⟨_, h2, h3, h4⟩ := fstF_spec (fun p => (match kd TT pu (R p) with | some .m => true | _ => false) && !lb R L p) n 0
  refine ⟨by rw [Nat.zero_add] at h2; exact h2, fun p hp hw => ?_, fun hlt => ?_⟩
  · have := h3 p (Nat.zero_le _) hp
    rw [isM_iff.2 hw] at this
    simpa using this
  · have := h4 (by rw [Nat.zero_add]; exact hlt)
    rw [Bool.and_eq_true] at this
    refine ⟨isM_iff.1 this.1, ?_⟩
    have h := this.2
    rw [Bool.not_eq_true'] at h
    exact h
structure HInv (W0 : World) (TT : List TI) (pu : List Nat) (R : Nat → Rec) (Hs : Nat → H) (n : Nat) (α0 : Al) (w0 : World) (h0 : H) (L : Array Bool) (α : Al) (w : World) : Prop where
  st : Step W0 α0 w0 h0 α w (Hs (QL TT pu R n L))
  nn : ∀ y, y < QL TT pu R n L → lb R L y = false → kd TT pu (R y) = some .n → ∀ B, Hs (y + 1) = (Hs y).new B → α (Hs y).nx = none ∧ tget .no (Hs (QL TT pu R n L)).tr (Hs y).nx = B
  fu : ∀ x, x ≤ QL TT pu R n L → Full (Hs x).tr (Hs x).nx ∧ (Hs x).ro ≤ (Hs x).nx
  mo : ∀ x, x < QL TT pu R n L → (Hs x).nx ≤ (Hs (x + 1)).nx
theorem mono_le {n : Nat} (h : ∀ x, x < n → (Hs x).nx ≤ (Hs (x + 1)).nx) : ∀ d x, x + d ≤ n → (Hs x).nx ≤ (Hs (x + d)).nx
  | 0, _, _ => Nat.le_refl _
  | d + 1, x, hd => Nat.le_trans (mono_le h d x (by omega)) (h (x + d) (by omega))
variable {α0 α : Al} {w0 w : World} {h0 : H}
/-- From a stretch's begin to the next call to come. -/
theorem Can.hup (C : Can P W0 n0 nt TT pu pv ops R Es Hs) {x : Nat} (hx : x ≤ QL TT pu R ops.length L) (hq : Qt TT pu R x (QL TT pu R ops.length L)) (st : Step W0 α0 w0 h0 α w (Hs x))
    (nn : ∀ y, y < x → lb R L y = false → kd TT pu (R y) = some .n → ∀ B, Hs (y + 1) = (Hs y).new B → α (Hs y).nx = none ∧ (Hs y).nx < (Hs x).nx ∧ tget .no (Hs x).tr (Hs y).nx = B)
    (fu : ∀ z, z < x → Full (Hs z).tr (Hs z).nx ∧ (Hs z).ro ≤ (Hs z).nx) (mo : ∀ z, z < x → (Hs z).nx ≤ (Hs (z + 1)).nx) : HInv W0 TT pu R Hs ops.length α0 w0 h0 L α w := by
  obtain ⟨q1, _, _⟩ := ql_spec TT pu R ops.length L
  have hqh : ∀ y, x ≤ y → y ≤ QL TT pu R ops.length L → Qh R TT pu Hs x y := fun y h1 h2 => by
    have := C.qh x st.hr.full (y - x) (by omega) (by rw [show x + (y - x) = y by omega]; exact fun p g1 g2 => hq p g1 (by omega))
    rwa [show x + (y - x) = y by omega] at this
  have qh := hqh _ hx (Nat.le_refl _)
  refine ⟨st.up qh, fun y hy hl hk B hB => ?_, fun z hz => ?_, fun z hz => ?_⟩
  · rcases Nat.lt_or_ge y x with h | h
    · obtain ⟨a1, a2, a3⟩ := nn y h hl hk B hB
      exact ⟨a1, (qh.old _ a2).trans a3⟩
    · have g1 := hqh y h (by omega)
      constructor
      · cases e : α (Hs y).nx with
        | none => rfl
        | some L' => have := (st.hr.dom _ _ e).1; have := g1.nx; omega
      · obtain ⟨f1, f2⟩ := new_full g1.full B
        have g2 := C.qh (y + 1) (by rw [hB]; exact f1) (QL TT pu R ops.length L - (y + 1)) (by omega) (by rw [show y + 1 + (QL TT pu R ops.length L - (y + 1)) = QL TT pu R ops.length L by omega]; exact fun p g1 g2 => hq p (by omega) g2)
        rw [show y + 1 + (QL TT pu R ops.length L - (y + 1)) = QL TT pu R ops.length L by omega] at g2
        rw [g2.old _ (by rw [hB, new_nx]; omega), hB, f2, if_pos rfl]
  · rcases Nat.lt_or_ge z x with h | h
    · exact fu z h
    · have g1 := hqh z h hz
      refine ⟨g1.full, ?_⟩
      rw [g1.ro]
      exact Nat.le_trans st.hr.ro g1.nx
  · rcases Nat.lt_or_ge z x with h | h
    · exact mo z h
    · rcases C.step_h (p := z) (by omega) (hq z h hz) with e | ⟨_, B, e⟩ <;> rw [e]
      · exact Nat.le_refl _
      · rw [new_nx]; omega
/-- The last call in a stretch. -/
theorem lastM (TT : List TI) (pu : List Nat) (R : Nat → Rec) (x : Nat) : ∀ d, Qt TT pu R x (x + d) ∨ ∃ m, x ≤ m ∧ m < x + d ∧ kd TT pu (R m) = some .m ∧ Qt TT pu R (m + 1) (x + d)
  | 0 => .inl fun p h1 h2 => by have h2 : p < x := h2; omega
  | d + 1 => by
    by_cases hk : kd TT pu (R (x + d)) = some .m
    · exact .inr ⟨x + d, by omega, by omega, hk, fun p h1 h2 => by omega⟩
    · have ext : ∀ y, Qt TT pu R y (x + d) → Qt TT pu R y (x + (d + 1)) := fun y h p h1 h2 => by
        by_cases e : p = x + d
        · subst e; exact hk
        · exact h p h1 (by omega)
      rcases lastM TT pu R x d with h | ⟨m, m1, m2, m3, m4⟩
      · exact .inl (ext x h)
      · exact .inr ⟨m, m1, by omega, m3, ext _ m4⟩
theorem Can.ql_set (C : Can P W0 n0 nt TT pu pv ops R Es Hs) (hL : LInv ops L) {p : Nat} (hp : p < ops.length) (hk : kd TT pu (R p) ≠ some .m) : QL TT pu R ops.length (L.setIfInBounds (R p).i true) = QL TT pu R ops.length L := by
  unfold QL
  refine fstF_congr _ _ fun x _ hx => ?_
  rw [C.lb_set hL hp (by omega)]
  by_cases e : p = x
  · subst e
    have : (match kd TT pu (R p) with | some .m => true | _ => false) = false := by
      cases h : (match kd TT pu (R p) with | some .m => true | _ => false)
      · rfl
      · exact absurd (isM_iff.1 h) hk
    rw [this]; rfl
  · rw [if_neg e]
/-- What changes no heap. -/
theorem Can.hsame (C : Can P W0 n0 nt TT pu pv ops R Es Hs) (hL : LInv ops L) {p : Nat} (hp : p < ops.length) (hk : kd TT pu (R p) ≠ some .m) (hi : HInv W0 TT pu R Hs ops.length α0 w0 h0 L α w) {α' : Al} {w' : World}
    (st : Step W0 α0 w0 h0 α' w' (Hs (QL TT pu R ops.length L))) (hnn : ∀ y, y < QL TT pu R ops.length L → y ≠ p → lb R L y = false → kd TT pu (R y) = some .n → ∀ B, Hs (y + 1) = (Hs y).new B → α' (Hs y).nx = none) : HInv W0 TT pu R Hs ops.length α0 w0 h0 (L.setIfInBounds (R p).i true) α' w' := by
  have e := C.ql_set hL hp hk
  obtain ⟨q1, _, _⟩ := ql_spec TT pu R ops.length L
  refine ⟨by rw [e]; exact st, fun y hy hl hky B hB => ?_, by rw [e]; exact hi.fu, by rw [e]; exact hi.mo⟩
  rw [e] at hy ⊢
  rw [C.lb_set hL hp (by omega)] at hl
  by_cases hyp : p = y
  · rw [if_pos hyp] at hl; cases hl
  · rw [if_neg hyp] at hl
    exact ⟨hnn y hy (fun h => hyp h.symm) hl hky B hB, (hi.nn y hy hl hky B hB).2⟩
/-- A call is the first to come. -/
theorem Can.ql_m (C : Can P W0 n0 nt TT pu pv ops R Es Hs) (hL : LInv ops L) {p : Nat} (hp : p < ops.length) (hno : lb R L p = false) (hd : ∀ k ∈ Go.X1.deps (R p).o, L.getD k false = true) (hk : kd TT pu (R p) = some .m) : QL TT pu R ops.length L = p := by
  obtain ⟨q1, q2, q3⟩ := ql_spec TT pu R ops.length L
  rcases Nat.lt_trichotomy (QL TT pu R ops.length L) p with h | h | h
  · obtain ⟨a1, a2⟩ := q3 (by omega)
    have := C.anc_lb hL hp (.inr hd) ((C.pair _ p h hp).mm a1 hk)
    rw [a2] at this; cases this
  · exact h
  · have := q2 p h hk
    rw [hno] at this; cases this
/-- Behind a call. -/
theorem Can.hnext (C : Can P W0 n0 nt TT pu pv ops R Es Hs) (hL : LInv ops L) {p : Nat} (hp : p < ops.length) (hno : lb R L p = false) (hd : ∀ k ∈ Go.X1.deps (R p).o, L.getD k false = true) (hk : kd TT pu (R p) = some .m) (hi : HInv W0 TT pu R Hs ops.length α0 w0 h0 L α w) {α' : Al} {w' : World}
    (st : Step W0 α0 w0 h0 α' w' (Hs (p + 1))) (hnx : (Hs p).nx ≤ (Hs (p + 1)).nx) (hun : ∀ b, b < (Hs p).nx → α b = none → α' b = none ∧ tget .no (Hs (p + 1)).tr b = tget .no (Hs p).tr b) : HInv W0 TT pu R Hs ops.length α0 w0 h0 (L.setIfInBounds (R p).i true) α' w' := by
  have e := C.ql_m hL hp hno hd hk
  obtain ⟨q1, q2, q3⟩ := ql_spec TT pu R ops.length (L.setIfInBounds (R p).i true)
  obtain ⟨_, o2, _⟩ := ql_spec TT pu R ops.length L
  have hlt : p + 1 ≤ QL TT pu R ops.length (L.setIfInBounds (R p).i true) := by
    rcases Nat.lt_or_ge p (QL TT pu R ops.length (L.setIfInBounds (R p).i true)) with h | h
    · exact h
    · obtain ⟨a1, a2⟩ := q3 (by omega)
      rw [C.lb_set hL hp (by omega)] at a2
      by_cases h' : p = QL TT pu R ops.length (L.setIfInBounds (R p).i true)
      · rw [if_pos h'] at a2; cases a2
      · rw [if_neg h'] at a2
        rw [o2 _ (by omega) a1] at a2; cases a2
  refine C.hup hlt (fun x h1 h2 hkx => ?_) st (fun y hy hl hky B hB => ?_) (fun z hz => hi.fu z (by omega)) fun z hz => ?_
  · have a := q2 x h2 hkx
    rw [C.lb_set hL hp (by omega), if_neg (by omega)] at a
    have := C.anc_lb hL (by omega : x < ops.length) (.inl a) ((C.pair p x (by omega) (by omega)).mm hk hkx)
    rw [hno] at this; cases this
  · rw [C.lb_set hL hp (by omega)] at hl
    by_cases hyp : p = y
    · rw [if_pos hyp] at hl; cases hl
    · rw [if_neg hyp] at hl
      have hyp' : y < p := by omega
      obtain ⟨a1, a2⟩ := hi.nn y (by omega) hl hky B hB
      rw [e] at a2
      have hb : (Hs y).nx < (Hs p).nx := by
        have h1 : (Hs (y + 1)).nx ≤ (Hs p).nx := by
          have := mono_le hi.mo (p - (y + 1)) (y + 1) (by omega)
          rwa [show y + 1 + (p - (y + 1)) = p by omega] at this
        rw [hB, new_nx] at h1
        omega
      obtain ⟨b1, b2⟩ := hun _ hb a1
      exact ⟨b1, by omega, b2.trans a2⟩
  · by_cases hz' : z = p
    · subst hz'; exact hnx
    · exact hi.mo z (by omega)
end
end Go.X1

set_option maxRecDepth 100000
namespace Go.X1
variable [Nu]
open Go.Region (ready binds)
section
variable {P : Program} {TT : List TI} {W0 : World} {nt : Nat} {pu pv : List Nat} {ops : List Oper} {R : Nat → Rec} {Es : Nat → E} {Hs : Nat → H} {L : Array Bool} {α0 : Al} {w0 : World} {h0 : H}
/-- What stands where some have come. -/
def Inv (W0 : World) (nt : Nat) (TT : List TI) (pu : List Nat) (R : Nat → Rec) (Es : Nat → E) (Hs : Nat → H) (n : Nat) (α0 : Al) (w0 : World) (h0 : H) (L : Array Bool) (a : Act) (w : World) : Prop :=
  ∃ α β, SV w0.heap.size nt (VL R Es n L) α β w a ∧ HInv W0 TT pu R Hs n α0 w0 h0 L α w ∧ ∀ p, p < n → lb R L p = false → ∀ d, (R p).o.dst = some d → (R p).ac = .wr d → β d = none
theorem hinv_lt {α : Al} {w : World} {n : Nat} (hi : HInv W0 TT pu R Hs n α0 w0 h0 L α w) {y : Nat} (hy : y < QL TT pu R n L) {B : B} (hB : Hs (y + 1) = (Hs y).new B) : (Hs y).nx < (Hs (QL TT pu R n L)).nx := by
  have := mono_le hi.mo (QL TT pu R n L - (y + 1)) (y + 1) (by omega)
  rw [show y + 1 + (QL TT pu R n L - (y + 1)) = QL TT pu R n L by omega, hB, new_nx] at this
  omega
/-- Where a read reads. -/
theorem Can.rd_at (C : Can P W0 w0.heap.size nt TT pu pv ops R Es Hs) (hL : LInv ops L) {p : Nat} (hp : p < ops.length) (hno : lb R L p = false) (hd : ∀ k ∈ Go.X1.deps (R p).o, L.getD k false = true) (hk : kd TT pu (R p) = some .l ∨ kd TT pu (R p) = some .p)
    (hge : GE (R p).gu (Es p)) {x : A} (hx : Es (p + 1) = put (Es p) (R p).o.dst (.v x)) (ho : OpK P W0 (kindOf TT pu (R p).o.op) (R p).o.op (val (Es p)) (Hs p) x (Hs (p + 1))) :
    ∃ y v h3, y ≤ QL TT pu R ops.length L ∧ Qt TT pu R y (QL TT pu R ops.length L) ∧ (y = QL TT pu R ops.length L ∨ p ≤ y) ∧ OpK P W0 (kindOf TT pu (R p).o.op) (R p).o.op (val (Es p)) (Hs y) v h3 ∧ ∀ t, (R p).o.dst = some t → v = x := by
  obtain ⟨q1, q2, q3⟩ := ql_spec TT pu R ops.length L
  obtain ⟨e1, e2, e3, e4⟩ := C.e p hp
  have hkm : kd TT pu (R p) ≠ some .m := by rcases hk with h | h <;> rw [h] <;> simp
  have hdv : ∀ t, (R p).o.dst = some t → dval (R p).o (R p).e' = x := fun t ht => by
    rw [e3, hx]
    unfold dval
    rw [ht]
    show sval (eget (put (Es p) (some t) (.v x)).tm t) = x
    rw [eget_put, if_pos rfl]
    rfl
  rcases Nat.lt_trichotomy (QL TT pu R ops.length L) p with h | h | h
  · obtain ⟨a1, a2⟩ := q3 (by omega)
    have hf : anc (masks ops []) (R p).i (R (QL TT pu R ops.length L)).i = false := by
      cases hh : anc (masks ops []) (R p).i (R (QL TT pu R ops.length L)).i
      · rfl
      · have := C.anc_lb hL hp (.inr hd) hh
        rw [a2] at this; cases this
    obtain ⟨h3, hag⟩ := (C.pair _ p h hp).r1 a1 hk hf (by rw [e1]; exact hge)
    rw [(C.e _ (by omega : QL TT pu R ops.length L < ops.length)).2.1, e1] at hag
    exact ⟨_, _, h3, Nat.le_refl _, fun p h1 h2 => by omega, .inl rfl, hag, hdv⟩
  · obtain ⟨a1, _⟩ := q3 (by omega)
    rw [h] at a1
    exact absurd a1 hkm
  · rcases lastM TT pu R p (QL TT pu R ops.length L - p) with hq | ⟨m, m1, m2, m3, m4⟩
    · rw [show p + (QL TT pu R ops.length L - p) = QL TT pu R ops.length L by omega] at hq
      exact ⟨p, x, _, by omega, hq, .inr (Nat.le_refl _), ho, fun _ _ => rfl⟩
    · rw [show p + (QL TT pu R ops.length L - p) = QL TT pu R ops.length L by omega] at m2 m4
      have hpm : p < m := by
        rcases Nat.lt_or_ge p m with h | h
        · exact h
        · have : p = m := by omega
          subst this
          exact absurd m3 hkm
      have hf : anc (masks ops []) (R m).i (R p).i = false := by
        cases hh : anc (masks ops []) (R m).i (R p).i
        · rfl
        · have := C.anc_lb hL (by omega : m < ops.length) (.inl (q2 m m2 m3)) hh
          rw [hno] at this; cases this
      obtain ⟨h3, hag⟩ := (C.pair p m hpm (by omega)).r2 m3 hk hf (by rw [e1]; exact hge)
      rw [(C.e m (by omega)).2.2.2, e1] at hag
      exact ⟨m + 1, _, h3, by omega, m4, .inr (by omega), hag, hdv⟩
theorem opp_o {o : Oper} {env : E} {h : H} {x : A} {α : Al} {a : Act} {w : World} (hv : OpP P W0 o.op (val env) h x) (hr : HR W0 α w h) (hρ : ∀ y ∈ o.op.operands, Rep α (a.eval y) (val env y)) {N : Act → World → Prop} {Q : Exit → Act → World → Prop} (hn : ∀ w' v, Step W0 α w h α w' h → Rep α v x → N (a.put o.dst v) w') : Oper.wp P o a w N Q := by
  obtain ⟨d, op, ty, pos, af, g⟩ := o
  exact hv d ty pos af g α w a hr hρ N Q hn
theorem opn_o {o : Oper} {env : E} {h : H} {f : Nat → A} {B0 : B} {α : Al} {a : Act} {w : World} (hv : OpN P W0 o.op (val env) f B0) (hr : HR W0 α w h) (hρ : ∀ y ∈ o.op.operands, Rep α (a.eval y) (val env y)) :
    ∃ v ob L, (execOp a.eval o).run P w = .ok (.value v) (w.alloc ob) ∧ L.At w.heap.size ∧ (∀ α' w', Le α α' → w'.heap[w.heap.size]? = some ob → BR α' w' L B0) ∧ ∀ α' id, α' id = some L → Rep α' v (f id) := by
  obtain ⟨d, op, ty, pos, af, g⟩ := o
  exact hv d ty pos af g α w a h hr hρ
theorem Can.step (C : Can P W0 w0.heap.size nt TT pu pv ops R Es Hs) (hW : W0.heap.size ≤ w0.heap.size) (h00 : h0.nx ≤ (Hs 0).nx) (hL : LInv ops L) {p : Nat} (hp : p < ops.length) (hno : lb R L p = false) (hd : ∀ k ∈ Go.X1.deps (R p).o, L.getD k false = true) {a : Act} {w : World}
    (hI : Inv W0 nt TT pu R Es Hs ops.length α0 w0 h0 L a w) {N : Act → World → Prop} {Q : Exit → Act → World → Prop} (hn : ∀ a' w', Inv W0 nt TT pu R Es Hs ops.length α0 w0 h0 (L.setIfInBounds (R p).i true) a' w' → N a' w') : OpStep P (R p).gu (R p).o a w N Q := by
  obtain ⟨α, β, hs, hh, hmk⟩ := hI
  obtain ⟨hc, hdop⟩ := C.dop p hp
  obtain ⟨q1, q2, q3⟩ := ql_spec TT pu R ops.length L
  have hla := C.la hL hp hno hd
  have hpg := C.pgi hL hp hno
  have hdn : ∀ t, (R p).o.dst = some t → t < nt := fun t e => (nodupD_spec C.nd _ _ t (C.op p hp) e).1
  have hgd := guardOf_ne (C.gu p hp)
  have hmk' : ∀ β' : Be, (∀ b, β b = none → β' b ≠ none → (R p).o.dst = some b ∧ (R p).ac = .wr b) → ∀ p', p' < ops.length → lb R (L.setIfInBounds (R p).i true) p' = false → ∀ d, (R p').o.dst = some d → (R p').ac = .wr d → β' d = none := fun β' hβ p' hp' hl d hd' ha => by
    rw [C.lb_set hL hp hp'] at hl
    by_cases e : p = p'
    · rw [if_pos e] at hl; cases hl
    · rw [if_neg e] at hl
      apply Classical.byContradiction
      intro hne
      obtain ⟨h1, _⟩ := hβ d (hmk p' hp' hl d hd' ha) hne
      exact e (C.uniq hp hp' h1 hd').symm
  rcases hdop with ⟨hge, hac, x, hx, ho⟩ | ⟨hh', hpf⟩
  · have hkd : kd TT pu (R p) = some (kindOf TT pu (R p).o.op) := by unfold kd; rw [hac]
    refine ⟨fun _ => ?_, fun hv => absurd (ge_gv hs hla hge) hv⟩
    have hρ : ∀ y ∈ (R p).o.op.operands, Rep α (a.eval y) (val (Es p) y) := fun y hy => op_rep hs hla hy
    have fin : ∀ α' w' v, Grow α w α' w' → (∀ t, (R p).o.dst = some t → Rep α' v x) → HInv W0 TT pu R Hs ops.length α0 w0 h0 (L.setIfInBounds (R p).i true) α' w' → N (a.put (R p).o.dst v) w' := fun α' w' v g r hi => by
      refine hn _ _ ⟨α', β, C.sv_next hL hp hno hd ?_, hi, hmk' β fun b e1 e2 => absurd e1 e2⟩
      rw [show wrB (R p).ac = none by rw [hac]; rfl]
      refine (hs.grow g).put hdn hpg fun t e => ?_
      rw [hx, eget_put, if_pos e]
      show Rep α' _ x
      rw [put_self e (Nat.lt_of_lt_of_le (hdn t e) hs.size)]
      exact r t e
    have hnn : ∀ α' : Al, (∀ b L', α' b = some L' → α b = some L' ∨ (Hs (QL TT pu R ops.length L)).nx ≤ b) → ∀ y, y < QL TT pu R ops.length L → y ≠ p → lb R L y = false → kd TT pu (R y) = some .n → ∀ B, Hs (y + 1) = (Hs y).new B → α' (Hs y).nx = none := fun α' hα y hy _ hl hk B hB => by
      have h1 := (hh.nn y hy hl hk B hB).1
      have h2 := hinv_lt hh hy hB
      cases e : α' (Hs y).nx with
      | none => rfl
      | some L' =>
        rcases hα _ _ e with h | h
        · rw [h1] at h; cases h
        · omega
    cases hkk : kindOf TT pu (R p).o.op with
    | v =>
      rw [hkk] at ho hkd
      have hkm : kd TT pu (R p) ≠ some .m := by rw [hkd]; simp
      refine ops_o (ho.2.ops (Hs (QL TT pu R ops.length L))) hh.st.hr hρ fun α' w' v s r => fin α' w' v s.grow (fun _ _ => r) (C.hsame hL hp hkm hh (hh.st.trans s) (hnn α' fun b L' e => ?_))
      exact (s.ext.new b L' e).imp id fun h => h.2.1
    | l =>
      obtain ⟨y, v0, h3, y1, y2, y3, y4, y5⟩ := C.rd_at hL hp hno hd (.inl (by rw [hkd, hkk])) hge hx ho
      rw [hkk] at y4 hkd
      have hkm : kd TT pu (R p) ≠ some .m := by rw [hkd]; simp
      have qh := C.qh y (hh.fu y y1).1 (QL TT pu R ops.length L - y) (by omega) (by rw [show y + (QL TT pu R ops.length L - y) = QL TT pu R ops.length L by omega]; exact y2)
      rw [show y + (QL TT pu R ops.length L - y) = QL TT pu R ops.length L by omega] at qh
      have hm : Mono (Hs y) (Hs (QL TT pu R ops.length L)) := ⟨qh.nx, fun b hb => qh.old b (by
        rcases Nat.lt_or_ge b (Hs y).nx with h | h
        · exact h
        · exact absurd (full_out .no _ _ _ (hh.fu y y1).1 h) hb)⟩
      refine ops_o (y4.2.ops hm) hh.st.hr hρ fun α' w' v s r => fin α' w' v s.grow (fun t e => by rw [← y5 t e]; exact r) (C.hsame hL hp hkm hh (hh.st.trans s) (hnn α' fun b L' e => ?_))
      exact (s.ext.new b L' e).imp id fun h => h.2.1
    | p =>
      have hkp : kd TT pu (R p) = some .p := by rw [hkd, hkk]
      obtain ⟨y, v0, h3, y1, y2, y3, y4, y5⟩ := C.rd_at hL hp hno hd (.inr hkp) hge hx ho
      rw [hkk] at y4
      have hkm : kd TT pu (R p) ≠ some .m := by rw [hkp]; simp
      have qh := C.qh y (hh.fu y y1).1 (QL TT pu R ops.length L - y) (by omega) (by rw [show y + (QL TT pu R ops.length L - y) = QL TT pu R ops.length L by omega]; exact y2)
      rw [show y + (QL TT pu R ops.length L - y) = QL TT pu R ops.length L by omega] at qh
      have hmap : ∀ b L', α b = some L' → b < (Hs y).nx := fun b L' e => by
        rcases Nat.lt_or_ge b (Hs y).nx with h | h
        · exact h
        · exfalso
          obtain ⟨z, B, z1, z2, z3, z4, rfl⟩ := qh.new b h (hh.st.hr.dom b L' e).1
          have hpz : p < z := by
            rcases y3 with y3 | y3
            · omega
            · by_cases hz : p = z
              · subst hz; rw [hkp] at z3; cases z3
              · omega
          have hzl : lb R L z = false := by
            cases hb : lb R L z with
            | false => rfl
            | true =>
              have := C.anc_lb hL (by omega : z < ops.length) (.inl hb) ((C.pair p z hpz (by omega)).nn z3 (.inr hkp))
              rw [hno] at this; cases this
          rw [(hh.nn z z2 hzl z3 B z4).1] at e; cases e
      have hry : HR W0 α w (Hs y) := hh.st.hr.down qh (hh.fu y y1).1 (hh.fu y y1).2 hmap
      refine opp_o y4.2 hry hρ fun w' v s r => fin α w' v s.grow (fun t e => by rw [← y5 t e]; exact r) ?_
      refine C.hsame hL hp hkm hh (hh.st.trans ⟨s.hr.up qh, .refl _ _ _, s.fr, .refl _, fun _ _ _ => rfl⟩) (hnn α fun b L' e => .inl e)
    | n =>
      rw [hkk] at ho hkd
      have hkm : kd TT pu (R p) ≠ some .m := by rw [hkd]; simp
      obtain ⟨f, B0, hxf, hB, hop⟩ := ho
      have hpq : p < QL TT pu R ops.length L := by
        rcases Nat.lt_trichotomy (QL TT pu R ops.length L) p with h | h | h
        · obtain ⟨a1, a2⟩ := q3 (by omega)
          have := C.anc_lb hL hp (.inr hd) ((C.pair _ p h hp).nn hkd (.inl a1))
          rw [a2] at this; cases this
        · obtain ⟨a1, _⟩ := q3 (by omega)
          rw [h] at a1
          exact absurd a1 hkm
        · exact h
      obtain ⟨n1, n2⟩ := hh.nn p hpq hno hkd B0 hB
      have n3 := hinv_lt hh hpq hB
      obtain ⟨v, ob, L0, o1, o2, o3, o4⟩ := opn_o hop hh.st.hr hρ
      have hnx0 : h0.nx ≤ (Hs p).nx := by
        have := mono_le hh.mo p 0 (by omega)
        rw [Nat.zero_add] at this
        omega
      have hα0 : α0 (Hs p).nx = none := by
        cases e : α0 (Hs p).nx with
        | none => rfl
        | some L' => have := hh.st.ext.le _ _ e; rw [n1] at this; cases this
      refine value_wp o1 (fin (α.set (Hs p).nx L0) _ v ⟨Al.le_set L0 n1, fun b L' e => ?_, (grow_alloc α w ob).fr⟩ (fun t e => ?_) ?_)
      · by_cases hb : b = (Hs p).nx
        · subst hb
          rw [Al.set_same] at e
          cases e
          exact .inr (.inl (by have := o2.1; omega))
        · rw [α.set_ne L0 hb] at e
          exact .inl e
      · rw [hxf]; exact o4 _ _ (Al.set_same _ _ _)
      · refine C.hsame hL hp hkm hh (hh.st.late n1 hnx0 n3 n2 o2 o3 hα0) fun y hy hyp hl hk B hB' => ?_
        have hne : (Hs y).nx ≠ (Hs p).nx := by
          rcases Nat.lt_trichotomy y p with h | h | h
          · have := mono_le hh.mo (p - (y + 1)) (y + 1) (by omega)
            rw [show y + 1 + (p - (y + 1)) = p by omega, hB', new_nx] at this
            omega
          · exact absurd h hyp
          · have := mono_le hh.mo (y - (p + 1)) (p + 1) (by omega)
            rw [show p + 1 + (y - (p + 1)) = y by omega, hB, new_nx] at this
            omega
        rw [α.set_ne L0 hne]
        exact (hh.nn y hy hl hk B hB').1
    | m =>
      have hkm : kd TT pu (R p) = some .m := by rw [hkd, hkk]
      have hq := C.ql_m hL hp hno hd hkm
      have st := hh.st
      rw [hq] at st
      refine ops_o ho.ops st.hr hρ fun α' w' v s r => fin α' w' v s.grow (fun _ _ => r) (C.hnext hL hp hno hd hkm hh (st.trans s) s.ro.nx fun b hb e => ⟨?_, s.un b hb e⟩)
      cases e' : α' b with
      | none => rfl
      | some L' =>
        rcases s.ext.new b L' e' with h | ⟨_, h, _⟩
        · rw [e] at h; cases h
        · omega
  · refine hpf (VL R Es ops.length L) α β w a (Hs (QL TT pu R ops.length L)) hs hh.st.fr.size hh.st.hr hla (fun b e => C.ba hL hp hno hd (acc_rd e)) (fun b e _ => C.ba hL hp hno hd (acc_wr e)) hdn hgd (fun d e1 e2 => hmk p hp hno d e1 e2) hpg N Q fun β' w' a' s1 s2 s3 s4 => hn a' w' ⟨α, β', C.sv_next hL hp hno hd s4, ?_, hmk' β' s3⟩
    by_cases hkm : kd TT pu (R p) = some .m
    · have hq := C.ql_m hL hp hno hd hkm
      have st := s1 _ _ _ _ hW (Nat.le_refl _) hh.st
      rw [hq, ← hh'] at st
      exact C.hnext hL hp hno hd hkm hh st (by rw [hh']; exact Nat.le_refl _) fun b _ e => ⟨e, by rw [hh']⟩
    · exact C.hsame hL hp hkm hh (s1 _ _ _ _ hW (Nat.le_refl _) hh.st) fun y hy _ hl hk B hB => (hh.nn y hy hl hk B hB).1
end
end Go.X1

set_option maxRecDepth 100000
namespace Go.X1
variable [Nu]
open Go.Region (ready binds)
theorem count_set : ∀ (m : Nat) (i : Nat) (p q : Nat → Bool), i < m → p i = true → q i = false → (∀ j, j ≠ i → q j = p j) → ((List.range m).filter q).length + 1 = ((List.range m).filter p).length := by
  intro m
  induction m with
  | zero => intro i p q hi; omega
  | succ m ih =>
    intro i p q hi hp hq hne
    rw [List.range_succ, List.filter_append, List.filter_append, List.length_append, List.length_append]
    by_cases him : i = m
    · subst him
      have e : (List.range i).filter q = (List.range i).filter p := List.filter_congr fun j hj => hne j (by have := List.mem_range.1 hj; omega)
      rw [e]; simp [hp, hq]
    · have := ih i p q (by omega) hp hq hne
      have e : [m].filter q = [m].filter p := List.filter_congr fun j hj => hne j (by simp at hj; omega)
      rw [e]; omega
theorem getD_rep (m j : Nat) : (Array.replicate m false).getD j false = false := by
  simp only [Array.getD_eq_getD_getElem?, Array.getElem?_replicate]
  split <;> rfl
section
variable {P : Program} {TT : List TI} {W0 : World} {nt : Nat} {pu pv : List Nat} {ops : List Oper} {R : Nat → Rec} {Es : Nat → E} {Hs : Nat → H} {L : Array Bool} {α0 : Al} {w0 : World} {h0 : H} {n0 : Nat} {lf : Nat × A × H} {k : K} {Γ : Cx} {env : E} {h : H}
theorem ready_iff {i : Nat} (hL : LInv ops L) : i ∈ ready .any ⟨ops⟩ L ↔ L.getD i false = false ∧ ∃ o, ops[i]? = some o ∧ ∀ k ∈ deps o, L.getD k false = true := by
  rw [mem_ready]
  constructor
  · rintro ⟨h1, o, h2, h3⟩
    have h2 : ops[i]? = some o := by simpa using h2
    have hi : i < ops.length := by
      rcases Nat.lt_or_ge i ops.length with h | h
      · exact h
      · rw [List.getElem?_eq_none h] at h2; cases h2
    refine ⟨by rw [← h1]; simp [hL.size, hi], o, h2, fun k hk => ?_⟩
    unfold deps at hk
    obtain ⟨e, he, hk⟩ := List.mem_filterMap.1 hk
    split at hk
    · cases hk; exact h3 e (by simpa using he) (by assumption)
    · cases hk
  · rintro ⟨h1, o, h2, h3⟩
    have hi : i < ops.length := by
      rcases Nat.lt_or_ge i ops.length with h | h
      · exact h
      · rw [List.getElem?_eq_none h] at h2; cases h2
    refine ⟨by rw [← h1]; simp [hL.size, hi], o, by simpa using h2, fun e he hb => h3 e.on ?_⟩
    unfold deps
    exact List.mem_filterMap.2 ⟨e, by simpa using he, if_pos hb⟩
theorem inv_end (C : Can P W0 w0.heap.size nt TT pu pv ops R Es Hs) (hall : ∀ p, p < ops.length → lb R L p = true) {a : Act} {w : World} (hI : Inv W0 nt TT pu R Es Hs ops.length α0 w0 h0 L a w) : ST W0 nt α0 w0 h0 (Es ops.length) (Hs ops.length) a w := by
  obtain ⟨α, β, h1, h2, _⟩ := hI
  refine ⟨α, β, h1.congr (fun t => ?_) (fun b => ?_), ?_⟩
  · have := C.at (L := L) (.s t) (Nat.le_refl _) (fun p' hp _ => hall p' hp) (fun p' h1 h2 _ => by omega)
    exact Eq.symm this
  · have := C.at (L := L) (.b b) (Nat.le_refl _) (fun p' hp _ => hall p' hp) (fun p' h1 h2 _ => by omega)
    exact ⟨this.1.symm, fun i => (this.2 i).symm⟩
  · have := h2.st
    have e : QL TT pu R ops.length L = ops.length := by
      obtain ⟨q1, _, q3⟩ := ql_spec TT pu R ops.length L
      rcases Nat.lt_or_ge (QL TT pu R ops.length L) ops.length with h | h
      · have := (q3 h).2
        rw [hall _ h] at this; cases this
      · omega
    rwa [e] at this
theorem any_order (C : Can P W0 w0.heap.size nt TT pu pv ops R Es Hs) (hW : W0.heap.size ≤ w0.heap.size) (h00 : h0.nx ≤ (Hs 0).nx) {Q : Exit → Act → World → Prop} (hQ : ∀ a w, ST W0 nt α0 w0 h0 (Es ops.length) (Hs ops.length) a w → Q .normal a w) :
    ∀ (f : Nat) (L : Array Bool) (a : Act) (w : World), ((List.range ops.length).filter fun i => !L.getD i false).length = f → LInv ops L → Inv W0 nt TT pu R Es Hs ops.length α0 w0 h0 L a w → wpAny P .any ⟨ops⟩ Q f L a w
  | 0, L, a, w, hf, hL, hI => by
    have hall : ∀ i, i < ops.length → L.getD i false = true := fun i hi => by
      have := List.filter_eq_nil_iff.1 (List.length_eq_zero_iff.1 hf) i (List.mem_range.2 hi)
      simpa using this
    refine ⟨?_, hQ a w (inv_end C (fun p hp => hall _ (C.li hp)) hI)⟩
    cases hr : ready .any ⟨ops⟩ L with
    | nil => rfl
    | cons j r =>
      have hj : j ∈ ready .any ⟨ops⟩ L := by rw [hr]; simp
      obtain ⟨h1, o, h2, _⟩ := (ready_iff hL).1 hj
      have hi : j < ops.length := by
        rcases Nat.lt_or_ge j ops.length with h | h
        · exact h
        · rw [List.getElem?_eq_none h] at h2; cases h2
      rw [hall j hi] at h1; cases h1
  | f + 1, L, a, w, hf, hL, hI => by
    refine ⟨fun hr => ?_, fun i hi => ?_⟩
    · exfalso
      have hex : ∃ p, p < ops.length ∧ lb R L p = false := by
        apply Classical.byContradiction
        intro hno
        have : ((List.range ops.length).filter fun i => !L.getD i false) = [] := List.filter_eq_nil_iff.2 fun i hi => by
          obtain ⟨p, h1, h2⟩ := C.surj (List.mem_range.1 hi)
          have : lb R L p = true := by
            cases hh : lb R L p
            · exact absurd ⟨p, h1, hh⟩ hno
            · rfl
          unfold lb at this
          rw [h2] at this
          simp [this]
        rw [this] at hf
        simp at hf
      obtain ⟨_, s2, s3, s4⟩ := fstF_spec (fun p => !lb R L p) ops.length 0
      have hlt : fstF (fun p => !lb R L p) 0 ops.length < ops.length := by
        rcases Nat.lt_or_ge (fstF (fun p => !lb R L p) 0 ops.length) ops.length with h | h
        · exact h
        · obtain ⟨p, h1, h2⟩ := hex
          have := s3 p (Nat.zero_le _) (by omega)
          rw [h2] at this; cases this
      have hno := s4 (by omega)
      generalize fstF (fun p => !lb R L p) 0 ops.length = p0 at *
      have hno : lb R L p0 = false := by simpa using hno
      have : (R p0).i ∈ ready .any ⟨ops⟩ L := (ready_iff hL).2 ⟨hno, (R p0).o, C.op p0 hlt, fun k hk => by
        obtain ⟨p', h1, h2⟩ := C.deps p0 hlt k hk
        have := s3 p' (Nat.zero_le _) h1
        rw [← h2]
        unfold lb at this
        simpa using this⟩
      rw [hr] at this
      simp at this
    · obtain ⟨h1, o, h2, h3⟩ := (ready_iff hL).1 hi
      have hil : i < ops.length := by
        rcases Nat.lt_or_ge i ops.length with h | h
        · exact h
        · rw [List.getElem?_eq_none h] at h2; cases h2
      obtain ⟨p, hp, rfl⟩ := C.surj hil
      have ho := C.op p hp
      rw [h2] at ho
      cases ho
      have hf' : ((List.range ops.length).filter fun i => !(L.setIfInBounds (R p).i true).getD i false).length = f := by
        have := count_set ops.length (R p).i (fun i => !L.getD i false) (fun i => !(L.setIfInBounds (R p).i true).getD i false) hil (by simp [h1]) (by
          rw [getD_set L _ _ (by rw [hL.size]; exact hil), if_pos rfl]; rfl) fun j hj => by
          rw [getD_set L _ _ (by rw [hL.size]; exact hil), if_neg fun e => hj e.symm]
        omega
      obtain ⟨s1, s2⟩ := C.step (Q := Q) (N := wpAny P .any ⟨ops⟩ Q f (L.setIfInBounds (R p).i true)) hW h00 hL hp h1 h3 hI fun a' w' hI' => any_order C hW h00 hQ f _ a' w' hf' (hL.set h2 hil h3) hI'
      unfold wpOp
      have hop : (⟨ops⟩ : Array Oper)[(R p).i]? = some (R p).o := by simpa using h2
      rw [hop]
      simp only
      by_cases hw : Region.wanted (R p).o (yielded ⟨ops⟩ a.tmps) = true
      · rw [if_pos hw]; exact .inl (s1 ((wanted_iff (C.gu p hp)).1 hw))
      · rw [if_neg hw]; exact s2 fun hv => hw ((wanted_iff (C.gu p hp)).2 hv)
/-! From the record to the canonical run -/
def stE (rs : List Rec) (e : E) (p : Nat) : E := match rs[p]? with | some r => r.e | none => e
def stH (rs : List Rec) (h : H) (p : Nat) : H := match rs[p]? with | some r => r.h | none => h
theorem chain_get : ∀ {rs : List Rec} {env env' : E} {h h' : H}, Chain env h rs env' h' → stE rs env' 0 = env ∧ stH rs h' 0 = h ∧ ∀ (p : Nat) (r : Rec), rs[p]? = some r → stE rs env' (p + 1) = r.e' ∧ stH rs h' (p + 1) = r.h'
  | [], env, env', h, h', hc => ⟨hc.1.symm, hc.2.symm, fun p r e => by simp at e⟩
  | x :: rs, env, env', h, h', hc => by
    obtain ⟨h1, h2, h3⟩ := hc
    obtain ⟨g1, g2, g3⟩ := chain_get h3
    refine ⟨h1, h2, fun p r e => ?_⟩
    cases p with
    | zero => cases e; exact ⟨g1, g2⟩
    | succ p => exact g3 p r e
theorem all_get : ∀ {rs dn : List Rec}, AllOK P W0 n0 nt TT pu pv ops dn rs → ∀ (p : Nat) (r : Rec), rs[p]? = some r → ∃ dn', RecOK P W0 n0 nt TT pu pv ops dn' r ∧ ∀ x ∈ dn', x ∈ dn ∨ ∃ p', p' < p ∧ rs[p']? = some x
  | [], dn, _, p, r, e => by simp at e
  | y :: rs, dn, h, p, r, e => by
    cases p with
    | zero => cases e; exact ⟨dn, h.1, fun x hx => .inl hx⟩
    | succ p =>
      obtain ⟨dn', h1, h2⟩ := all_get h.2 p r e
      refine ⟨dn', h1, fun x hx => ?_⟩
      rcases h2 x hx with h | ⟨p', q1, q2⟩
      · rcases List.mem_cons.1 h with rfl | h
        · exact .inr ⟨0, by omega, rfl⟩
        · exact .inl h
      · exact .inr ⟨p' + 1, by omega, q2⟩
theorem can_of {rs : List Rec} {env' : E} {h' : H} (hc : Chain env h rs env' h') (hall : AllOK P W0 n0 nt TT pu pv ops [] rs) (hp : rs.Pairwise (Pair P W0 TT pu (masks ops []))) (hlen : rs.length = ops.length) (hnp : NoPg env) (hnd : nodupD nt ops = true) :
    Can P W0 n0 nt TT pu pv ops (fun p => rs[p]?.getD ⟨0, default, none, env', h', env', h', .no⟩) (stE rs env') (stH rs h') := by
  obtain ⟨c1, c2, c3⟩ := chain_get hc
  have hr : ∀ p, p < ops.length → ∃ r, rs[p]? = some r ∧ rs[p]?.getD ⟨0, default, none, env', h', env', h', .no⟩ = r ∧ stE rs env' p = r.e ∧ stH rs h' p = r.h := fun p hp => by
    have : rs[p]? = some rs[p] := List.getElem?_eq_getElem (by omega)
    exact ⟨_, this, by rw [this]; rfl, by unfold stE; rw [this], by unfold stH; rw [this]⟩
  have hrec : ∀ p, p < ops.length → ∃ r dn', rs[p]? = some r ∧ rs[p]?.getD ⟨0, default, none, env', h', env', h', .no⟩ = r ∧ stE rs env' p = r.e ∧ stH rs h' p = r.h ∧ stE rs env' (p + 1) = r.e' ∧ stH rs h' (p + 1) = r.h' ∧ RecOK P W0 n0 nt TT pu pv ops dn' r ∧ ∀ x ∈ dn', ∃ p', p' < p ∧ rs[p']?.getD ⟨0, default, none, env', h', env', h', .no⟩ = x := fun p hp => by
    obtain ⟨r, r1, r2, r3, r4⟩ := hr p hp
    obtain ⟨dn', a1, a2⟩ := all_get hall p r r1
    refine ⟨r, dn', r1, r2, r3, r4, (c3 p r r1).1, (c3 p r r1).2, a1, fun x hx => ?_⟩
    rcases a2 x hx with h | ⟨p', q1, q2⟩
    · simp at h
    · exact ⟨p', q1, by rw [q2]; rfl⟩
  refine ⟨fun p hp => ?_, fun p hp => ?_, fun p hp => ?_, fun p hp => ?_, fun p hp => ?_, fun p hp => ?_, fun p p' hpp hp' => ?_, by rw [c1]; exact hnp, hnd⟩
  · obtain ⟨r, dn', _, r2, r3, r4, r5, r6, _, _⟩ := hrec p hp
    rw [r2]
    exact ⟨r3.symm, r4.symm, r5.symm, r6.symm⟩
  · obtain ⟨r, dn', _, r2, _, _, _, _, r7, _⟩ := hrec p hp
    rw [r2]
    exact r7.op
  · obtain ⟨r, dn', _, r2, _, _, _, _, r7, _⟩ := hrec p hp
    rw [r2]
    exact r7.gu
  · obtain ⟨r, dn', _, r2, r3, r4, r5, r6, r7, _⟩ := hrec p hp
    rw [r2, r3, r4, r5, r6]
    exact r7.dop
  · obtain ⟨r, dn', _, r2, _, _, _, _, r7, r8⟩ := hrec p hp
    rw [r2]
    intro k hk
    obtain ⟨x, x1, x2⟩ := r7.deps k hk
    obtain ⟨p', q1, q2⟩ := r8 x x1
    exact ⟨p', q1, by rw [q2]; exact x2⟩
  · obtain ⟨r, dn', _, r2, _, _, _, _, r7, r8⟩ := hrec p hp
    rw [r2]
    intro g u e
    obtain ⟨x, x1, x2⟩ := r7.g g u e
    obtain ⟨p', q1, q2⟩ := r8 x x1
    exact ⟨p', q1, by rw [q2]; exact x2⟩
  · obtain ⟨r, r1, r2, _, _⟩ := hr p (by omega)
    obtain ⟨r', r1', r2', _, _⟩ := hr p' hp'
    rw [r2, r2']
    have := List.pairwise_iff_getElem.1 hp p p' (by omega) (by omega) hpp
    rw [List.getElem?_eq_getElem (by omega)] at r1 r1'
    cases r1
    cases r1'
    exact this
theorem SV.dropP {nt : Nat} {V : Lc → E} {α : Al} {β : Be} {w : World} {a : Act} (hs : SV n0 nt V α β w a) (D : Nat → Bool) (hp : ∀ t b o, (eget (V (.s t)).tm t = .p b o ∨ ∃ g u, eget (V (.s t)).tm t = .pg g u b o) → D b = false) (hb : ∀ d, D d = true → bget (V (.b d)).pb d = none) : SV n0 nt V α (fun b => if D b = true then none else β b) w a where
  defers := hs.defers
  size := hs.size
  slot t := by
    have h1 := hs.slot t
    cases hq : eget (V (.s t)).tm t with
    | v x => rw [hq] at h1; exact h1
    | p b o =>
      rw [hq] at h1
      obtain ⟨k, q1, q2⟩ := h1
      exact ⟨k, (if_neg (by rw [hp t b o (.inl hq)]; simp)).trans q1, q2⟩
    | pg g u b o =>
      rw [hq] at h1
      obtain ⟨k, q1, q2⟩ := h1
      exact ⟨k, (if_neg (by rw [hp t b o (.inr ⟨g, u, hq⟩)]; simp)).trans q1, q2⟩
  base b n hb' := by
    obtain ⟨k, q1, q2⟩ := hs.base b n hb'
    exact ⟨k, (if_neg fun e => by rw [hb b e] at hb'; cases hb').trans q1, q2⟩
  own b k hb' := hs.own b k (by
    by_cases e : D b = true
    · rw [if_pos e] at hb'; cases hb'
    · rw [if_neg e] at hb'; exact hb')
  inj b b' k h1 h2 := by
    by_cases e : D b = true
    · rw [if_pos e] at h1; cases h1
    · by_cases e' : D b' = true
      · rw [if_pos e'] at h2; cases h2
      · rw [if_neg e] at h1
        rw [if_neg e'] at h2
        exact hs.inj b b' k h1 h2
theorem inv_start (C : Can P W0 w0.heap.size nt TT pu pv ops R Es Hs) (hf : ∀ o ∈ ops, ∀ d, o.dst = some d → hasN pv d = true → fresh (Es 0) d = true) {a : Act} {w : World} (hs : ST W0 nt α0 w0 h0 (Es 0) (Hs 0) a w) (hL0 : ∀ i, L.getD i false = false) : Inv W0 nt TT pu R Es Hs ops.length α0 w0 h0 L a w := by
  obtain ⟨α, β, h1, h2⟩ := hs
  let D : Nat → Bool := fun b => ops.any fun o => (match o.dst with | some d => Nat.beq d b | none => false) && hasN pv b
  have hD : ∀ b, D b = true → fresh (Es 0) b = true := fun b hb => by
    obtain ⟨o, o1, o2⟩ := List.any_eq_true.1 hb
    rw [Bool.and_eq_true] at o2
    cases hd : o.dst with
    | none => rw [hd] at o2; cases o2.1
    | some d =>
      rw [hd] at o2
      have : d = b := beq o2.1
      subst this
      exact hf o o1 d hd o2.2
  have h3 := h1.dropP D (fun t b o e => by
    cases hb : D b with
    | false => rfl
    | true => exact absurd rfl (fresh_tm (hD b hb) e)) fun d hd => fresh_pb (hD d hd)
  have h4 : SV w0.heap.size nt (VL R Es ops.length L) α (fun b => if D b = true then none else β b) w a := h3.congr (fun t => C.at (.s t) (Nat.zero_le _) (fun _ h _ => by omega) fun p' _ _ _ => hL0 _) fun b => C.at (.b b) (Nat.zero_le _) (fun _ h _ => by omega) fun p' _ _ _ => hL0 _
  refine ⟨α, _, h4, C.hup (x := 0) (Nat.zero_le _) (fun p _ hp hk => ?_) h2 (fun y hy => by omega) (fun z hz => by omega) fun z hz => by omega, fun p hp _ d hd ha => if_pos ?_⟩
  · have := (ql_spec TT pu R ops.length L).2.1 p hp hk
    unfold lb at this
    rw [hL0] at this; cases this
  · obtain ⟨f1, _⟩ := (C.dop p hp).1.fre d hd ha
    refine List.any_eq_true.2 ⟨(R p).o, List.mem_of_getElem? (C.op p hp), ?_⟩
    rw [hd, f1]
    simp
theorem ST.drew {nt : Nat} {env : E} {h : H} {a : Act} {w : World} (hs : ST W0 nt α0 w0 h0 env h a w) : ST W0 nt α0 w0 h0 env h a { w with drawn := w.drawn + 1 } := by
  obtain ⟨α, β, h1, h2⟩ := hs
  refine ⟨α, β, ⟨h1.defers, h1.size, h1.slot, h1.base, h1.own, h1.inj⟩, h2.trans ⟨HR.drew h2.hr, .refl _ _ _, ⟨Nat.le_refl _, fun _ _ _ => rfl, rfl, rfl⟩, .refl _, fun _ _ _ => rfl⟩⟩
theorem region_any (hm : P.follows .mixedOrders = true) (hΓ : Γ.T = TT) (hT : TabOK P TT) (hB : TabB P TT) (hF : TabF P TT) (hk : CallOK P W0 k) (hW : W0.heap.size ≤ w0.heap.size) {id : Nat} {K : E → H → X1.R} {l : List Nat} (hnp : NoPg env) (hnd : nodupD nt ops = true) (hfr : freshA Γ env ops = true) (h00 : h0.nx ≤ h.nx)
    (hl : (drun Γ k ops (masks ops []) l ⟨[], [], [], [], [], []⟩ env h fun env h => K (purge env) h).lf = some lf) :
    ∃ env' h', NoPg env' ∧ (K env' h').lf = some lf ∧ ∀ (Q : Exit → Act → World → Prop), (∀ a w, ST W0 nt α0 w0 h0 env' h' a w → Q .normal a w) → ∀ a w, ST W0 nt α0 w0 h0 env h a w → (Code.region id ⟨ops⟩ true).wp P Q a w := by
  obtain ⟨rs, env', h', q1, q2, q3, _, q5, q6⟩ := drun_rec (n0 := w0.heap.size) (nt := nt) hΓ hT hB hF hk l _ env h [] hl ⟨fun x hx => by simp at hx, fun x hx => by simp at hx, fun i => by simp, rfl, fun d hd => by simp at hd, fun x hx => by simp at hx, fun x hx => by simp at hx, fun x hx => by simp at hx, fun p hp => by simp at hp, fun x hx => by simp at hx⟩
  have hlen : rs.length = ops.length := by simpa using q6
  have C := can_of q2 q3 q5 hlen hnp hnd
  obtain ⟨c1, c2, _⟩ := chain_get q2
  have e1 : stE rs env' ops.length = env' := by unfold stE; rw [List.getElem?_eq_none (by omega)]
  have e2 : stH rs h' ops.length = h' := by unfold stH; rw [List.getElem?_eq_none (by omega)]
  refine ⟨purge env', h', noPg_purge env', q1, fun Q hQ a w hs => ?_⟩
  refine wp_region_any hm ?_
  refine any_order C hW (by rw [c2]; exact h00) (fun a w hs => hQ a w (by rw [e1, e2] at hs; exact st_purge hs)) _ _ _ _ ?_ ⟨by simp, fun i o ho h => ?_⟩ (inv_start C (fun o ho d hd hpv => ?_) (by rw [c1, c2]; exact hs.drew) fun i => ?_)
  · have : ((List.range ops.length).filter fun i => !(Array.replicate (⟨ops⟩ : Array Oper).size false).getD i false) = List.range ops.length := List.filter_eq_self.2 fun i hi => by
      rw [getD_rep]; rfl
    rw [this]; simp
  · rw [getD_rep] at h; cases h
  · rw [c1]
    have := List.all_eq_true.1 hfr o ho
    rw [hd] at this
    simpa [hpv] using this
  · exact getD_rep _ _
end
end Go.X1

set_option maxRecDepth 100000
namespace Go.X1
variable [Nu]
theorem wp_loopN {P : Program} {Q : Exit → Act → World → Prop} {c : Code} (J : Nat → Act → World → Prop) (h0 : ∀ a w, ¬ J 0 a w) (round : ∀ m a w, J (m + 1) a w → c.wp P (Exit.then (J m) Q) a w) (m : Nat) (a : Act) (w : World) (h : J m a w) : (Code.loop c).wp P Q a w := by
  intro b k cs
  have key : ∀ m a w, J m a w → ∃ e a' w', Q e a' w' ∧ Arrives P (lone (b.at a (.code c :: .inLoop c :: k)) cs w) b k cs e a' w' := by
    intro m
    induction m with
    | zero => intro a w h; exact absurd h (h0 a w)
    | succ m ih =>
      intro a w hI
      obtain ⟨e, a₁, w₁, hq, harr⟩ := round m a w hI b (.inLoop c :: k) cs
      cases e with
      | normal =>
        obtain ⟨e₂, a₂, w₂, hq₂, harr₂⟩ := ih a₁ w₁ hq
        exact ⟨e₂, a₂, w₂, hq₂, .of_steps (Steps.trans harr (.one step_inLoop)) harr₂⟩
      | exit id => exact ⟨_, a₁, w₁, hq, .pass (x := .inLoop c) rfl (fun _ _ => .inl (by simp)) harr⟩
      | goto l => exact ⟨_, a₁, w₁, hq, .pass (x := .inLoop c) rfl (fun _ _ => .inl (by simp)) harr⟩
      | ret => exact ⟨_, a₁, w₁, hq, .pass (x := .inLoop c) rfl (fun _ _ => .inl (by simp)) harr⟩
      | panic ch => exact ⟨_, a₁, w₁, hq, .pass (x := .inLoop c) rfl (fun _ _ => .inl (by simp)) harr⟩
      | outgrown => exact ⟨_, a₁, w₁, hq, .pass (x := .inLoop c) rfl (fun _ _ => .inl (by simp)) harr⟩
  obtain ⟨e, a', w', hq, harr⟩ := key _ a w h
  exact ⟨e, a', w', hq, .of_steps (.one step_loop) harr⟩
/-- What is carried over: no more than there was. -/
structure Sub (env env' : E) : Prop where
  slot : ∀ t, eget env'.tm t = .v junk ∨ eget env'.tm t = .v (sval (eget env.tm t)) ∨ ∃ b o, eget env'.tm t = .p b o ∧ eget env.tm t = .p b o
  base : ∀ b n, bget env'.pb b = some n → bget env.pb b = some n
  cl : ∀ b i, cget env'.cl b i = cget env.cl b i ∨ cget env'.cl b i = junk
theorem sub_e0 (env : E) : Sub env e0 := ⟨fun _ => .inl rfl, (fun _ _ h => by cases h), fun _ _ => .inr rfl⟩
section
variable {P : Program} {TT : List TI} {W0 : World} {nt : Nat} {α0 : Al} {w0 : World} {h0 : H} {n0 : Nat} {lf : Nat × A × H} {k : K} {Γ : Cx} {env env' : E} {h : H} {a : Act} {w : World}
theorem Sub.sv {V : Lc → E} {α : Al} {β : Be} (hs : Sub env env') (h : SV n0 nt (fun _ => env) α β w a) : SV n0 nt (fun _ => env') α β w a where
  defers := h.defers
  size := h.size
  slot t := by
    have h1 := h.slot t
    rcases hs.slot t with e | e | ⟨b, o, e, e2⟩
    · rw [e]; exact .unk _
    · rw [e]
      show Rep α (a.tmps.getD t undef) (sval (eget env.tm t))
      cases hq : eget env.tm t with
      | v x => rw [hq] at h1; exact h1
      | _ => exact .unk _
    · rw [e]; rw [e2] at h1; exact h1
  base b n hb := by
    obtain ⟨k, q1, cs, el, q2, q3, q4⟩ := h.base b n (hs.base b n hb)
    refine ⟨k, q1, cs, el, q2, q3, fun i hi => ?_⟩
    obtain ⟨v, r1, r2, r3⟩ := q4 i hi
    refine ⟨v, r1, r2, ?_⟩
    rcases hs.cl b i with e | e <;> rw [e]
    · exact r3
    · exact .unk _
  own := h.own
  inj := h.inj
theorem Sub.st (hs : Sub env env') (h1 : ST W0 nt α0 w0 h0 env h a w) : ST W0 nt α0 w0 h0 env' h a w := by
  obtain ⟨α, β, q1, q2⟩ := h1
  exact ⟨α, β, hs.sv (V := fun _ => env) q1, q2⟩
theorem Sub.np (hs : Sub env env') : NoPg env' := fun t g u b q e => by
  rcases hs.slot t with h | h | ⟨_, _, h, _⟩ <;> rw [h] at e <;> cases e
/-- What was packed for a join, unpacked. -/
theorem un_lf : ∀ (L : List Key) (acc : E) (K : E → R), okL env L = true → Sub env acc → (un L (valsL env L) acc K).lf = some lf → ∃ env', Sub env env' ∧ (K env').lf = some lf
  | [], acc, K, _, hs, hl => ⟨acc, hs, tid_lf hl⟩
  | .t n :: r, acc, K, ho, hs, hl => by
    refine un_lf r ⟨(n, .v (sval (eget env.tm n))) :: acc.tm, acc.cl, acc.pb⟩ K ho ⟨fun t => ?_, hs.base, hs.cl⟩ hl
    show (bif Nat.beq t n then S.v (sval (eget env.tm n)) else eget acc.tm t) = _ ∨ (bif Nat.beq t n then S.v (sval (eget env.tm n)) else eget acc.tm t) = _ ∨ ∃ b o, (bif Nat.beq t n then S.v (sval (eget env.tm n)) else eget acc.tm t) = _ ∧ _
    cases hb : Nat.beq t n
    · exact hs.slot t
    · have : t = n := beq hb
      subst this
      exact .inr (.inl rfl)
  | .c b i :: r, acc, K, ho, hs, hl => by
    refine un_lf r ⟨acc.tm, ((b, i), cget env.cl b i) :: acc.cl, acc.pb⟩ K ho ⟨hs.slot, hs.base, fun b' i' => ?_⟩ hl
    show (bif Nat.beq b' b && Nat.beq i' i then cget env.cl b i else cget acc.cl b' i') = _ ∨ (bif Nat.beq b' b && Nat.beq i' i then cget env.cl b i else cget acc.cl b' i') = _
    cases hb : Nat.beq b' b
    · exact hs.cl b' i'
    · cases hi : Nat.beq i' i
      · exact hs.cl b' i'
      · have h1 : b' = b := beq hb
        have h2 : i' = i := beq hi
        subst h1; subst h2
        exact .inl rfl
  | .b n m :: r, acc, K, ho, hs, hl => by
    have ho : ((match bget env.pb n with | some q => Nat.beq q m | none => false) && (match eget env.tm n with | .p b o => Nat.beq b n && Nat.beq o 0 | _ => false) && okL env r) = true := ho
    rw [Bool.and_eq_true, Bool.and_eq_true] at ho
    obtain ⟨⟨o1, o2⟩, o3⟩ := ho
    have e1 : bget env.pb n = some m := by
      cases hb : bget env.pb n with
      | none => rw [hb] at o1; cases o1
      | some q => rw [hb] at o1; rw [show q = m from beq o1]
    have e2 : eget env.tm n = .p n 0 := by
      cases hb : eget env.tm n with
      | p b o =>
        rw [hb] at o2
        rw [Bool.and_eq_true] at o2
        rw [show b = n from beq o2.1, show o = 0 from beq o2.2]
      | _ => rw [hb] at o2; cases o2
    refine un_lf r ⟨(n, .p n 0) :: acc.tm, acc.cl, (n, m) :: acc.pb⟩ K o3 ⟨fun t => ?_, fun b q hq => ?_, hs.cl⟩ (tid_lf hl)
    · show (bif Nat.beq t n then S.p n 0 else eget acc.tm t) = _ ∨ (bif Nat.beq t n then S.p n 0 else eget acc.tm t) = _ ∨ ∃ b o, (bif Nat.beq t n then S.p n 0 else eget acc.tm t) = _ ∧ _
      cases hb : Nat.beq t n
      · exact hs.slot t
      · have : t = n := beq hb
        subst this
        exact .inr (.inr ⟨_, _, rfl, e2⟩)
    · have hq2 : (bif Nat.beq b n then some m else bget acc.pb b) = some q := hq
      cases hb : Nat.beq b n
      · rw [hb] at hq2; exact hs.base b q hq2
      · rw [hb] at hq2
        rw [show b = n from beq hb, e1]; exact hq2
theorem fin_lf {L : List Key} {e : Nat} (hl : (fin L e env h).lf = some lf) : okL env L = true ∧ lf = (e, valsL env L, h) := by
  rcases bb_lf (tid_lf hl) with ⟨h1, hl⟩ | ⟨_, hl⟩
  · cases hl; exact ⟨h1, rfl⟩
  · exact bad_lf hl
theorem rThen_lf {f : A → H → R} {r : R} (hl : (rThen f r).lf = some lf) : ∃ e vs h', r.lf = some (e, vs, h') ∧ (e = 0 ∧ (f vs h').lf = some lf ∨ e ≠ 0 ∧ lf = (e, vs, h')) := by
  cases r with
  | bad => cases hl
  | go e vs h' =>
    refine ⟨e, vs, h', rfl, ?_⟩
    rcases rec_lf hl with ⟨h1, hl⟩ | ⟨h1, hl⟩
    · exact .inl ⟨beq h1, hl⟩
    · refine .inr ⟨fun e0 => ?_, by cases hl; rfl⟩
      subst e0; cases h1
theorem rBlk_lf {j : Nat} {r : R} {e : Nat} {vs : A} {h' : H} (hl : (rBlk j r).lf = some (e, vs, h')) : ∃ e1, r.lf = some (e1, vs, h') ∧ (e1 = j ∧ e = 0 ∨ e1 ≠ j ∧ e = e1) := by
  cases r with
  | bad => cases hl
  | go e1 vs1 h1 =>
    rcases rec_lf hl with ⟨g1, hl⟩ | ⟨g1, hl⟩
    · cases hl; exact ⟨e1, rfl, .inl ⟨beq g1, rfl⟩⟩
    · cases hl
      refine ⟨_, rfl, .inr ⟨fun q => ?_, rfl⟩⟩
      subst q
      rw [nat_beq] at g1
      simp at g1
theorem res_e : ∀ (rs : List ResultVar) (c : A → R), (∀ l lf, (c l).lf = some lf → lf.1 = 1) → (res Γ rs env h c).lf = some lf → lf.1 = 1
  | [], c, hc, hl => hc _ _ (tid_lf hl)
  | .tmp t :: r, c, hc, hl => res_e r _ (fun l lf hl => hc _ _ hl) hl
  | .cell b t :: r, c, hc, hl => by
    unfold res at hl
    split at hl
    · rcases bb_lf hl with ⟨_, hl⟩ | ⟨_, hl⟩
      · exact res_e r _ (fun l lf hl => hc _ _ hl) hl
      · exact bad_lf hl
    · rcases bb_lf hl with ⟨_, hl⟩ | ⟨_, hl⟩
      · rcases bb_lf hl with ⟨_, hl⟩ | ⟨_, hl⟩
        · obtain ⟨_, _, _, _, hl⟩ := oPt_lf hl
          obtain ⟨_, _, _, _, hl⟩ := oBlk_lf hl
          obtain ⟨_, hl⟩ := oCk_lf hl
          obtain ⟨_, hl⟩ := oCk_lf hl
          exact res_e r _ (fun l lf hl => hc _ _ hl) hl
        · obtain ⟨_, _, _, _, hl⟩ := oPt_lf hl
          obtain ⟨_, _, _, _, hl⟩ := oBlk_lf hl
          obtain ⟨_, hl⟩ := oCk_lf hl
          obtain ⟨_, hl⟩ := oCk_lf hl
          exact res_e r _ (fun l lf hl => hc _ _ hl) hl
      · exact bad_lf hl
theorem retR_e (hl : (retR Γ env h).lf = some lf) : lf.1 = 1 := by
  replace hl := tid_lf hl
  split at hl
  · exact res_e _ _ (fun l lf hl => by cases hl; rfl) hl
  · exact res_e _ _ (fun l lf hl => by cases hl; rfl) hl
theorem val_rep {V : Lc → E} {α : Al} {β : Be} (h : SV n0 nt (fun _ => env) α β w a) (y : Operand) : Rep α (a.eval y) (val env y) := by
  cases y with
  | tmp t =>
    have h1 := h.slot t
    show Rep α (a.tmps.getD t undef) (sval (eget env.tm t))
    cases hq : eget env.tm t with
    | v x => rw [hq] at h1; exact h1
    | _ => exact .unk _
  | const v => exact rep_cv α v
  | func f => exact .fn rfl .nil
  | global g => exact .unk _
/-- What a residual's end says of the machine's. -/
def Post (W0 : World) (nt : Nat) (α0 : Al) (w0 : World) (h0 : H) (Γ : Cx) (X : List (Nat × List Key)) (K : E → H → R) (lf : Nat × A × H) : Exit → Act → World → Prop
  | .normal, a, w => ∃ env' h', NoPg env' ∧ (K env' h').lf = some lf ∧ ST W0 nt α0 w0 h0 env' h' a w
  | .exit i, a, w => ∃ L env', lkp X i = some L ∧ okL env' L = true ∧ ∃ h', ST W0 nt α0 w0 h0 env' h' a w ∧ lf = (i + 2, valsL env' L, h')
  | .ret, a, w => ∃ env' h', ST W0 nt α0 w0 h0 env' h' a w ∧ (retR Γ env' h').lf = some lf
  | _, _, _ => False
theorem den_sound (hm : P.follows .mixedOrders = true) (hΓ : Γ.T = TT) (hnt : Γ.nt = nt) (hT : TabOK P TT) (hB : TabB P TT) (hF : TabF P TT) (hk : CallOK P W0 k) (hW : W0.heap.size ≤ w0.heap.size) :
    ∀ (c : Code) (lp : Nat) (X : List (Nat × List Key)) (env : E) (h : H) (K : E → H → R) (lf : Nat × A × H), (den Γ k c lp X env h K).lf = some lf → NoPg env → ∀ a w, ST W0 nt α0 w0 h0 env h a w → c.wp P (Post W0 nt α0 w0 h0 Γ X K lf) a w
  | .skip, lp, X, env, h, K, lf, hl, hnp, a, w, hs => wp_skip ⟨env, h, hnp, tid_lf hl, hs⟩
  | .ret, lp, X, env, h, K, lf, hl, hnp, a, w, hs => wp_ret ⟨env, h, hs, hl⟩
  | .region id ⟨ops⟩ draw, lp, X, env, h, K, lf, hl, hnp, a, w, hs => by
    unfold den at hl
    rcases bb_lf hl with ⟨hnd, hl⟩ | ⟨_, hl⟩
    · rw [hnt] at hnd
      cases draw
      · rcases bb_lf hl with ⟨h', _⟩ | ⟨_, hl⟩
        · cases h'
        · obtain ⟨env', h', n1, n2, n3⟩ := region_seq hΓ hT hB hF hk hW hnp hnd hl
          exact n3 _ (fun a w hs => ⟨env', h', n1, n2, hs⟩) a w hs
      · rcases bb_lf hl with ⟨_, hl⟩ | ⟨h', _⟩
        · rcases bb_lf hl with ⟨hf, hl⟩ | ⟨_, hl⟩
          · have hs2 := hs
            obtain ⟨α, β, _, hst⟩ := hs2
            obtain ⟨env', h', n1, n2, n3⟩ := region_any hm hΓ hT hB hF hk hW hnp hnd hf hst.ro.nx hl
            exact n3 _ (fun a w hs => ⟨env', h', n1, n2, hs⟩) a w hs
          · exact bad_lf hl
        · cases h'
    · exact bad_lf hl
  | .seq x y, lp, X, env, h, K, lf, hl, hnp, a, w, hs => by
    refine wp_seq (wp_mono (den_sound hm hΓ hnt hT hB hF hk hW x lp X env h _ lf hl hnp a w hs) fun e a' w' he => ?_)
    cases e with
    | normal =>
      obtain ⟨env', h', n1, n2, n3⟩ := he
      exact den_sound hm hΓ hnt hT hB hF hk hW y lp X env' h' K lf n2 n1 a' w' n3
    | _ => exact he
  | .cond c x y, lp, X, env, h, K, lf, hl, hnp, a, w, hs => by
    unfold den at hl
    have ev : ∀ {t : Bool}, val env c = .bool t → a.eval c = .bool t := fun e => by
      have hs2 := hs
      obtain ⟨α, β, q1, _⟩ := hs2
      have := val_rep (V := fun _ => env) q1 c
      rw [e] at this
      exact rep_bool this
    rcases bb_lf hl with ⟨_, hl⟩ | ⟨_, hl⟩
    · obtain ⟨t, ht, hl⟩ := oBool_lf hl
      refine wp_cond (ev ht) ?_
      cases t
      · exact den_sound hm hΓ hnt hT hB hF hk hW y lp X env h K lf hl hnp a w hs
      · exact den_sound hm hΓ hnt hT hB hF hk hW x lp X env h K lf hl hnp a w hs
    · obtain ⟨e, vs, h', hl1, hl2⟩ := rThen_lf hl
      obtain ⟨t, ht, hl1⟩ := oBool_lf hl1
      have post : ∀ ex a w, Post W0 nt α0 w0 h0 Γ X (fin (condK Γ.lc c x y) 0) (e, vs, h') ex a w → Post W0 nt α0 w0 h0 Γ X K lf ex a w := fun ex a w hp => by
        cases ex with
        | normal =>
          obtain ⟨env', h'', _, n2, n3⟩ := hp
          obtain ⟨f1, f2⟩ := fin_lf n2
          cases f2
          rcases hl2 with ⟨_, hl2⟩ | ⟨hne, _⟩
          · obtain ⟨env'', s1, s2⟩ := un_lf _ _ _ f1 (sub_e0 env') hl2
            exact ⟨env'', h', s1.np, s2, s1.st n3⟩
          · exact absurd rfl hne
        | exit i =>
          obtain ⟨L, env', m1, m2, h'', m3, m4⟩ := hp
          cases m4
          rcases hl2 with ⟨h0', _⟩ | ⟨_, hl2⟩
          · omega
          · exact ⟨L, env', m1, m2, h', m3, hl2⟩
        | ret =>
          obtain ⟨env', h'', m1, m2⟩ := hp
          have := retR_e m2
          rcases hl2 with ⟨h0', _⟩ | ⟨_, hl2⟩
          · have this : e = 1 := this
            omega
          · exact ⟨env', h'', m1, by rw [hl2]; exact m2⟩
        | _ => exact hp
      refine wp_cond (ev ht) ?_
      cases t
      · exact wp_mono (den_sound hm hΓ hnt hT hB hF hk hW y lp X env h _ _ hl1 hnp a w hs) post
      · exact wp_mono (den_sound hm hΓ hnt hT hB hF hk hW x lp X env h _ _ hl1 hnp a w hs) post
  | .block i x, lp, X, env, h, K, lf, hl, hnp, a, w, hs => by
    unfold den at hl
    obtain ⟨e, vs, h', hl1, hl2⟩ := rThen_lf hl
    obtain ⟨e1, hl1, he⟩ := rBlk_lf hl1
    refine wp_block (wp_mono (den_sound hm hΓ hnt hT hB hF hk hW x i _ env h _ _ hl1 hnp a w hs) fun ex a w hp => ?_)
    have back : ∀ env' a w, okL env' (getK Γ.lb i) = true → e = 0 → vs = valsL env' (getK Γ.lb i) → ST W0 nt α0 w0 h0 env' h' a w → Post W0 nt α0 w0 h0 Γ X K lf .normal a w := fun env' a w f1 e0' ev n3 => by
      rcases hl2 with ⟨_, hl2⟩ | ⟨hne, _⟩
      · rw [ev] at hl2
        obtain ⟨env'', s1, s2⟩ := un_lf _ _ _ f1 (sub_e0 env') hl2
        exact ⟨env'', h', s1.np, s2, s1.st n3⟩
      · exact absurd e0' hne
    cases ex with
    | normal =>
      obtain ⟨env', h'', _, n2, n3⟩ := hp
      obtain ⟨f1, f2⟩ := fin_lf n2
      cases f2
      refine back env' a w f1 ?_ rfl n3
      rcases he with ⟨h1, _⟩ | ⟨_, h1⟩
      · omega
      · exact h1
    | exit j =>
      obtain ⟨L, env', m1, m2, h'', m3, m4⟩ := hp
      have m1 : (bif Nat.beq j i then some (getK Γ.lb i) else lkp X j) = some L := m1
      cases m4
      show if j = i then _ else _
      by_cases hji : j = i
      · rw [if_pos hji]
        subst hji
        rw [nat_beq, decide_eq_true rfl] at m1
        cases m1
        refine back env' a w m2 ?_ rfl m3
        rcases he with ⟨_, h1⟩ | ⟨h1, _⟩
        · exact h1
        · exact absurd rfl h1
      · rw [if_neg hji]
        rw [nat_beq, decide_eq_false hji] at m1
        rcases he with ⟨h1, _⟩ | ⟨_, h1⟩
        · omega
        · subst h1
          rcases hl2 with ⟨h1, _⟩ | ⟨_, hl2⟩
          · omega
          · exact ⟨L, env', m1, m2, h', m3, hl2⟩
    | ret =>
      obtain ⟨env', h'', m1, m2⟩ := hp
      have h1 : e1 = 1 := retR_e m2
      subst h1
      rcases he with ⟨h1, _⟩ | ⟨_, h1⟩
      · omega
      · subst h1
        rcases hl2 with ⟨h1, _⟩ | ⟨_, hl2⟩
        · omega
        · exact ⟨env', h'', m1, by rw [hl2]; exact m2⟩
    | _ => exact hp
  | .loop x, lp, X, env, h, K, lf, hl, hnp, a, w, hs => by
    unfold den at hl
    rcases bb_lf hl with ⟨ho, hl⟩ | ⟨_, hl⟩
    · let f : A → H → R := fun vs h => un (getK Γ.ll lp) vs e0 fun env => den Γ k x lp X env h (fin (getK Γ.ll lp) 0)
      refine wp_loopN (fun m a w => ∃ env h, okL env (getK Γ.ll lp) = true ∧ ST W0 nt α0 w0 h0 env h a w ∧ (cLoop f m (valsL env (getK Γ.ll lp)) h).lf = some lf) (fun a w => ?_) (fun m a w => ?_) 100000 a w ⟨env, h, ho, hs, hl⟩
      · rintro ⟨_, _, _, _, hl⟩; exact bad_lf hl
      · rintro ⟨env, h, ho, hs, hl⟩
        have hl : (rThen (cLoop f m) (f (valsL env (getK Γ.ll lp)) h)).lf = some lf := hl
        obtain ⟨e, vs, h', hl1, hl2⟩ := rThen_lf hl
        obtain ⟨env1, s1, hl1⟩ := un_lf _ _ _ ho (sub_e0 env) hl1
        refine wp_mono (den_sound hm hΓ hnt hT hB hF hk hW x lp X env1 h _ _ hl1 s1.np a w (s1.st hs)) fun ex a w hp => ?_
        cases ex with
        | normal =>
          obtain ⟨env', h'', _, n2, n3⟩ := hp
          obtain ⟨f1, f2⟩ := fin_lf n2
          cases f2
          rcases hl2 with ⟨_, hl2⟩ | ⟨hne, _⟩
          · exact ⟨env', h', f1, n3, hl2⟩
          · exact absurd rfl hne
        | exit i =>
          obtain ⟨L, env', m1, m2, h'', m3, m4⟩ := hp
          cases m4
          rcases hl2 with ⟨h0', _⟩ | ⟨_, hl2⟩
          · omega
          · exact ⟨L, env', m1, m2, h', m3, hl2⟩
        | ret =>
          obtain ⟨env', h'', m1, m2⟩ := hp
          have h1 : e = 1 := retR_e m2
          rcases hl2 with ⟨h0', _⟩ | ⟨_, hl2⟩
          · omega
          · exact ⟨env', h'', m1, by rw [hl2]; exact m2⟩
        | _ => exact hp
    · exact bad_lf hl
  | .exit i, lp, X, env, h, K, lf, hl, hnp, a, w, hs => by
    unfold den at hl
    split at hl
    · rename_i L hL
      obtain ⟨f1, f2⟩ := fin_lf hl
      exact wp_exit ⟨L, env, hL, f1, h, hs, f2⟩
    · exact bad_lf (tid_lf hl)
  | .scope _, lp, X, env, h, K, lf, hl, hnp, a, w, hs => bad_lf hl
  | .label _, lp, X, env, h, K, lf, hl, hnp, a, w, hs => bad_lf hl
  | .goto _, lp, X, env, h, K, lf, hl, hnp, a, w, hs => bad_lf hl
  | .rangeFunc .., lp, X, env, h, K, lf, hl, hnp, a, w, hs => bad_lf hl
  | .refuse _, lp, X, env, h, K, lf, hl, hnp, a, w, hs => bad_lf hl
end
end Go.X1

set_option maxRecDepth 100000
namespace Go.X1
variable [Nu]
section
variable {P : Program} {TT : List TI} {W0 : World} {nt : Nat} {n0 : Nat} {lf : Nat × A × H} {k : K} {Γ : Cx} {env : E} {h : H} {α : Al} {β : Be} {a : Act} {w : World}
def runRes (t : ResultVar) (tmps : Array Value) : Sem Value := match t with
  | .tmp t => pure (tmps.getD t undef)
  | .cell a t => do loadVar t (← asAddr (tmps.getD a undef))
theorem results_eq (fn : Func) (tmps : Array Value) : results fn tmps = (do
    let vs ← fn.results.toList.mapM (fun r => runRes r tmps)
    pure (match vs with | [v] => v | vs => .tuple ⟨vs⟩)) := by
  have e : results fn tmps = (do
      let vs ← fn.results.mapM (fun r => runRes r tmps)
      pure (if h : vs.size = 1 then vs[0] else .tuple vs)) := by
    unfold results
    congr 1
  rw [e, Array.mapM_eq_mapM_toList]
  simp only [bind_map_left]
  congr 1
  funext vs
  congr 1
  match vs with
  | [] => rfl
  | [v] => rfl
  | _ :: _ :: _ => simp
theorem load_addr {t : Nat} {v u : Value} (h : (Instr.loadAt t v).run P w = .ok u w) : (do loadVar t (← asAddr v) : Sem Value).run P w = .ok u w := by
  simp only [Instr.loadAt, Sem.run_bind] at h
  simp only [Sem.run_bind]
  unfold Instr.sureAddr at h
  split at h
  · simp only [Sem.run_pure, Result.andThen_ok, asAddr] at h ⊢
    exact h
  · simp at h
theorem row_load (hT : TabOK P TT) {t b kk n q : Nat} (hz : nz TT t = true) (hr : Row α w kk n (cget env.cl b)) (hq : q + (tget? TT t).size ≤ n) :
    ∃ u, (loadVar t ⟨kk, q, none⟩).run P w = .ok u w ∧ Rep α u (bif (tget? TT t).agg then .nd 0 (cellsAt env b q (tget? TT t).size) else cget env.cl b q) := by
  have hpos := nz_pos hz
  cases ha : (tget? TT t).agg
  · obtain ⟨cs, el, g1, g2, g3⟩ := hr
    obtain ⟨u, c1, c2, c3⟩ := g3 q (by omega)
    refine ⟨u, ?_, c3⟩
    have hc := cell_of (w := w) g1 c1
    simp [loadVar, hT.isAgg hz, ha, hc]
  · obtain ⟨vs, g1, g2, g3, g4⟩ := row_vals hr (tget? TT t).size q hq
    refine ⟨.agg ⟨vs⟩, ?_, .agg g4 g3⟩
    have hc := run_loadCells_list (P := P) w ⟨kk, q, none⟩ vs (fun j v hj => by rw [addr_add]; exact g2 j v hj)
    rw [g1] at hc
    simp [loadVar, hT.isAgg hz, ha, hT.size hz, hc]
theorem res_sound (hΓ : Γ.T = TT) (hT : TabOK P TT) : ∀ (rs : List ResultVar) (c : A → R), (res Γ rs env h c).lf = some lf → ∃ l, (isL l ∧ llen l = rs.length) ∧ (c l).lf = some lf ∧ ∀ α β w a, SV n0 nt (fun _ => env) α β w a → HR W0 α w h →
    ∃ vs, (rs.mapM (fun r => runRes r a.tmps)).run P w = .ok vs w ∧ RepL α vs l
  | [], c, hl => ⟨.nl, ⟨trivial, rfl⟩, tid_lf hl, fun α β w a _ _ => ⟨[], by simp, .nil⟩⟩
  | .tmp t :: r, c, hl => by
    obtain ⟨l, h0, h1, h2⟩ := res_sound hΓ hT r _ hl
    refine ⟨.cn _ l, ⟨h0.1, by rw [llen_cn, h0.2]; rfl⟩, h1, fun α β w a hs hr => ?_⟩
    obtain ⟨vs, q1, q2⟩ := h2 α β w a hs hr
    have e1 : (runRes (.tmp t) a.tmps).run P w = .ok (a.tmps.getD t undef) w := rfl
    exact ⟨a.tmps.getD t undef :: vs, by simp only [List.mapM_cons, Sem.run_bind, e1, Result.andThen_ok, q1, Sem.run_pure], .cons (val_rep (V := fun _ => env) hs (.tmp t)) q2⟩
  | .cell b t :: r, c, hl => by
    unfold res at hl
    have go : ∀ {x : A}, (res Γ r env h fun l => c (.cn x l)).lf = some lf → (∀ α β w a, SV n0 nt (fun _ => env) α β w a → HR W0 α w h → ∃ u, (runRes (.cell b t) a.tmps).run P w = .ok u w ∧ Rep α u x) →
        ∃ l, (isL l ∧ llen l = (ResultVar.cell b t :: r).length) ∧ (c l).lf = some lf ∧ ∀ α β w a, SV n0 nt (fun _ => env) α β w a → HR W0 α w h → ∃ vs, ((ResultVar.cell b t :: r).mapM (fun r => runRes r a.tmps)).run P w = .ok vs w ∧ RepL α vs l := fun hl hx => by
      obtain ⟨l, h0, h1, h2⟩ := res_sound hΓ hT r _ hl
      refine ⟨.cn _ l, ⟨h0.1, by rw [llen_cn, h0.2]; rfl⟩, h1, fun α β w a hs hr => ?_⟩
      obtain ⟨vs, q1, q2⟩ := h2 α β w a hs hr
      obtain ⟨u, u1, u2⟩ := hx α β w a hs hr
      exact ⟨u :: vs, by simp only [List.mapM_cons, Sem.run_bind, u1, Result.andThen_ok, q1, Sem.run_pure], .cons u2 q2⟩
    split at hl
    · rename_i b' q hp
      rcases bb_lf hl with ⟨hb, hl⟩ | ⟨_, hl⟩
      · rw [Bool.and_eq_true] at hb
        rw [hΓ] at hb hl
        refine go hl fun α β w a hs hr => ?_
        obtain ⟨n, n1, n2⟩ := bhas_some hb.2
        obtain ⟨kk, k1, k2⟩ := hs.base b' n n1
        have h1 := hs.slot b
        have e : eget env.tm b = .p b' q := by
          simp only [ptrOf] at hp
          cases hq : eget env.tm b with
          | v x => rw [hq] at hp; cases hp
          | p b2 o2 => rw [hq] at hp; cases hp; rfl
          | pg g u b2 o2 => rw [hq] at hp; cases hp
        rw [e] at h1
        obtain ⟨k', e1, e2⟩ := h1
        rw [k1] at e1
        cases e1
        obtain ⟨u, u1, u2⟩ := row_load hT hb.1 k2 n2
        refine ⟨u, ?_, u2⟩
        simp only [runRes, e2, asAddr, Sem.run_bind, Sem.run_pure, Result.andThen_ok]
        exact u1
      · exact bad_lf hl
    · rcases bb_lf hl with ⟨hz, hl⟩ | ⟨_, hl⟩
      · rw [hΓ] at hz hl
        rcases bb_lf hl with ⟨ha, hl⟩ | ⟨ha, hl⟩
        · obtain ⟨x, hl, hx⟩ := ldN_sound (P := P) hT hz ha hl
          refine go hl fun α β w a hs hr => ?_
          obtain ⟨u, u1, u2⟩ := hx h (Mono.refl h) W0 α w _ hr (val_rep (V := fun _ => env) hs (.tmp b))
          exact ⟨u, load_addr u1, u2⟩
        · obtain ⟨x, hl, hx⟩ := ld_sound (P := P) hT hz ha hl
          refine go hl fun α β w a hs hr => ?_
          obtain ⟨u, u1, _, u2⟩ := hx h (Mono.refl h) W0 α w _ hr (val_rep (V := fun _ => env) hs (.tmp b))
          exact ⟨u, load_addr u1, u2⟩
      · exact bad_lf hl
theorem retR_sound (hΓ : Γ.T = TT) (hT : TabOK P TT) {fn : Func} (hrs : Γ.rs = fn.results.toList) (hl : (retR Γ env h).lf = some lf) :
    ∃ v r, lf = (1, .cn v r, h) ∧ ∀ α β w a, SV n0 nt (fun _ => env) α β w a → HR W0 α w h → ∃ u, (results fn a.tmps).run P w = .ok u w ∧ Rep α u v := by
  replace hl := tid_lf hl
  split at hl
  · rename_i r hr
    obtain ⟨l, h0, h1, h2⟩ := res_sound (n0 := n0) (nt := nt) (W0 := W0) (P := P) hΓ hT _ _ hl
    cases h1
    cases l with
    | cn v t =>
      refine ⟨v, t, rfl, fun α β w a hs hr' => ?_⟩
      obtain ⟨vs, q1, q2⟩ := h2 α β w a hs hr'
      have hlen := q2.len
      rw [h0.2] at hlen
      rw [results_eq, ← hrs, hr]
      match vs, hlen, q2 with
      | [u], _, .cons hv _ => exact ⟨u, by simp only [Sem.run_bind, q1, Result.andThen_ok, Sem.run_pure], hv⟩
    | nl => have := h0.2; cases this
    | _ => exact h0.1.elim
  · rename_i rs hne
    obtain ⟨l, h0, h1, h2⟩ := res_sound (n0 := n0) (nt := nt) (W0 := W0) (P := P) hΓ hT _ _ hl
    cases h1
    refine ⟨_, _, rfl, fun α β w a hs hr' => ?_⟩
    obtain ⟨vs, q1, q2⟩ := h2 α β w a hs hr'
    have hlen := q2.len
    rw [h0.2] at hlen
    rw [results_eq, ← hrs]
    refine ⟨.tuple ⟨vs⟩, ?_, .tup q2⟩
    simp only [Sem.run_bind, q1, Result.andThen_ok, Sem.run_pure]
    match vs, hlen with
    | [], _ => rfl
    | [v], hh =>
      exfalso
      generalize Γ.rs = rs at hne hh
      match rs, hne, hh with
      | [r], hne, _ => exact hne r rfl
    | _ :: _ :: _, _ => rfl
/-! Arguments -/
theorem args_lf : ∀ (n i : Nat) (l : A) (tm : List (Nat × S)) (c : List (Nat × S) → R), (args n i l tm c).lf = some lf → ∃ tm', (c tm').lf = some lf ∧ ((∀ t, ∃ x, eget tm t = .v x) → ∀ t, ∃ x, eget tm' t = .v x) ∧
    ∀ (α : Al) (vs : List Value) (f : Nat → Value), RepL α vs l → (∀ t, ∃ x, eget tm t = .v x ∧ Rep α (f t) x) → (∀ (j : Nat) (v : Value), vs[j]? = some v → f (i + j) = v) → ∀ t, ∃ x, eget tm' t = .v x ∧ Rep α (f t) x
  | 0, i, l, tm, c, hl => ⟨tm, tid_lf hl, id, fun _ _ _ _ h _ => h⟩
  | n + 1, i, l, tm, c, hl => by
    obtain ⟨x, r, rfl, hl⟩ := oCn_lf hl
    obtain ⟨tm', h1, h3, h2⟩ := args_lf n (i + 1) r _ c hl
    refine ⟨tm', h1, fun ht => h3 fun t => ?_, fun α vs f hr ht hf => ?_⟩
    · show ∃ y, (bif Nat.beq t i then S.v x else eget tm t) = .v y
      cases Nat.beq t i
      · exact ht t
      · exact ⟨x, rfl⟩
    cases hr with
    | cons hv hr =>
      refine h2 α _ f hr (fun t => ?_) fun j u hu => ?_
      · show ∃ y, (bif Nat.beq t i then S.v x else eget tm t) = .v y ∧ _
        cases hb : Nat.beq t i
        · exact ht t
        · have : t = i := beq hb
          subst this
          refine ⟨x, rfl, ?_⟩
          rw [show f t = _ from hf 0 _ rfl]
          exact hv
      · rw [show i + 1 + j = i + (j + 1) by omega]
        exact hf (j + 1) u (by simpa using hu)
/-- A FUNCTION. -/
theorem func_sound {f : FuncId} {fn : Func} {c : Code} {n : Nat} {args : A} {v r : A} {h' : H} (hm : P.follows .mixedOrders = true) (hf : P.funcs[f]? = some fn) (hb : fn.body = some c) (hnm : (fn.name == "runtime.NumGoroutine") = false)
    (hΓ : Γ.T = TT) (hnt : Γ.nt = fn.ntmps) (hrs : Γ.rs = fn.results.toList) (hT : TabOK P TT) (hB : TabB P TT) (hF : TabF P TT) (hk : CallOK P W0 k) (hl : (denF Γ n c k args h).lf = some (1, .cn v r, h')) :
    FnOK P f ∧ ∀ (α : Al) (w : World) (cargs : List Value), HR W0 α w h → RepL α cargs args → Calls P f ⟨cargs⟩ w (fun e w' => ∃ u α', e = .returned u ∧ Step W0 α w h α' w' h' ∧ Rep α' u v) := by
  refine ⟨⟨fn, hf, hnm, by rw [hb]; rfl⟩, fun α w cargs hr hargs => ?_⟩
  rcases bb_lf hl with ⟨_, hl⟩ | ⟨_, hl⟩
  · obtain ⟨tm, hl, ht0, ht⟩ := args_lf _ _ _ _ _ hl
    refine calls_of_wp hf hb ?_
    have hsz : fn.ntmps ≤ ((⟨cargs⟩ : Array Value) ++ Array.replicate (fn.ntmps - (⟨cargs⟩ : Array Value).size) undef).size := by simp; omega
    have hst : ST W0 fn.ntmps α w h ⟨tm, [], []⟩ h { tmps := (⟨cargs⟩ : Array Value) ++ Array.replicate (fn.ntmps - (⟨cargs⟩ : Array Value).size) undef, defers := [] } w := by
      refine ⟨α, fun _ => none, ⟨rfl, hsz, fun t => ?_, (fun b n hb => by cases hb), (fun b k hb => by cases hb), (fun b b2 k hb => by cases hb)⟩, .refl hr⟩
      obtain ⟨x, e1, e2⟩ := ht α cargs (fun t => ((⟨cargs⟩ : Array Value) ++ Array.replicate (fn.ntmps - (⟨cargs⟩ : Array Value).size) undef).getD t undef) hargs (fun t => ⟨junk, rfl, .unk _⟩) (fun j u hu => by
        have hj : j < cargs.length := by
          rcases Nat.lt_or_ge j cargs.length with h | h
          · exact h
          · rw [List.getElem?_eq_none h] at hu; cases hu
        rw [Nat.zero_add, Array.getD_eq_getD_getElem?, Array.getElem?_append_left (by simpa using hj)]
        simp [hu]) t
      show SR α _ _ t (eget tm t)
      rw [e1]; exact e2
    refine wp_mono (den_sound hm hΓ hnt hT hB hF hk hr.agr.size c 0 [] _ h _ _ hl (fun t g u b q e => ?_) _ w hst) fun ex a' w' hp => ?_
    · obtain ⟨x, e1⟩ := ht0 (fun t => ⟨junk, rfl⟩) t
      have e : eget tm t = _ := e
      rw [e1] at e; cases e
    · have key : ∀ env' h'', ST W0 fn.ntmps α w h env' h'' a' w' → (retR Γ env' h'').lf = some (1, .cn v r, h') → a'.defers = [] ∧ ∃ u, (results fn a'.tmps).run P w' = .ok u w' ∧ ∃ u' α', Ending.returned u = .returned u' ∧ Step W0 α w h α' w' h' ∧ Rep α' u' v := fun env' h'' hs hl => by
        obtain ⟨α', β', s1, s2⟩ := hs
        obtain ⟨v', r', e, hres⟩ := retR_sound (W0 := W0) (P := P) (n0 := w.heap.size) (nt := fn.ntmps) hΓ hT hrs hl
        cases e
        obtain ⟨u, u1, u2⟩ := hres α' β' w' a' s1 s2.hr
        exact ⟨s1.defers, u, u1, u, α', rfl, s2, u2⟩
      cases ex with
      | normal =>
        obtain ⟨env', h'', _, p1, p2⟩ := hp
        exact key env' h'' p2 p1
      | ret =>
        obtain ⟨env', h'', p1, p2⟩ := hp
        exact key env' h'' p1 p2
      | exit i => obtain ⟨L, _, hL, _⟩ := hp; cases hL
      | _ => exact hp.elim
  · exact bad_lf hl
end
end Go.X1

set_option maxRecDepth 100000
namespace Go.X1
variable [Nu]
/-- What a function answers. -/
def FnAns (P : Program) (W0 : World) (f : Nat) (F : A → H → R) : Prop := ∀ (a : A) (h : H) (v r : A) (h' : H), (F a h).lf = some (1, .cn v r, h') →
  FnOK P f ∧ ∀ (α : Al) (w : World) (args : List Value), HR W0 α w h → RepL α args a → Calls P f ⟨args⟩ w (fun e w' => ∃ u α', e = .returned u ∧ Step W0 α w h α' w' h' ∧ Rep α' u v)
theorem leaf_lf {P : Prop} {f n : Nat} {F : A → H → R} {a : A} {h : H} {lf : Nat × A × H} (hl : R.lf (@Bool.rec (fun _ => A → H → R) (fun _ _ => .bad) F (Nat.beq f n) a h) = some lf) (hp : f = n → (F a h).lf = some lf → P) : P := by
  cases hb : Nat.beq f n
  · rw [hb] at hl; exact bad_lf hl
  · rw [hb] at hl; exact hp (beq hb) hl
theorem node_lf {P : Prop} {x y : A → H → R} {c : Bool} {a : A} {h : H} {lf : Nat × A × H} (hl : R.lf (@Bool.rec (fun _ => A → H → R) x y c a h) = some lf) (hx : (x a h).lf = some lf → P) (hy : (y a h).lf = some lf → P) : P := by
  cases c
  · exact hx hl
  · exact hy hl
theorem callOK_zero (P : Program) (W0 : World) : CallOK P W0 (fun _ _ _ => .bad) := fun f a h v r h' hl => bad_lf hl
section
variable {P : Program} {W0 : World} {α : Al} {w w' : World} {h : H} {lf : Nat × A × H}
theorem step_agree (hr : HR W0 α w h) (A : Agree w w') : Step W0 α w h α w' h :=
  ⟨HR.other (w' := w') (fun k ⟨b, L, e, hk⟩ => A.heap k (by rw [← hk]; exact (hr.dom b L e).2.2)) (hr.agr.trans A) A.size hr, .refl _ _ _, ⟨A.size, fun k hk _ => A.heap k hk, A.os, A.out⟩, .refl _, fun _ _ _ => rfl⟩
theorem pow8 (n : Nat) : 2 ^ (8 * n) = 256 ^ n := by rw [Nat.pow_mul]
theorem digit_nat {i : Nat} (h : i < 10) : (UInt8.ofNat (48 + i)).toNat = 48 + i := by
  rw [UInt8.toNat_ofNat']; exact Nat.mod_eq_of_lt (by omega)
theorem encB_cons (b : UInt8) (l : List UInt8) : encB (b :: l) = b.toNat + encB l * 256 := rfl
theorem digs_lf : ∀ (f m : Nat) (l : List UInt8) (c : Nat → Nat → R), (digs f m l.length (encB l) c).lf = some lf → (c (Lib.decDigits m ++ l).length (encB (Lib.decDigits m ++ l))).lf = some lf
  | 0, m, l, c, hl => bad_lf hl
  | f + 1, m, l, c, hl => by
    rcases rec_lf hl with ⟨h1, hl⟩ | ⟨h1, hl⟩
    · have h1 : m < 10 := blt h1
      have e : Lib.decDigits m ++ l = UInt8.ofNat (48 + m) :: l := by rw [Lib.decDigits_one h1]; rfl
      rw [e]
      have e2 : encB (UInt8.ofNat (48 + m) :: l) = Nat.add (Nat.mul 256 (encB l)) (Nat.add 48 m) := by
        rw [encB_cons, digit_nat h1]
        show _ = 256 * encB l + (48 + m)
        omega
      rw [e2]
      exact hl
    · have h1 : ¬ m < 10 := fun h => by
        have : Nat.blt m 10 = true := Nat.ble_eq_true_of_le h
        rw [this] at h1; cases h1
      have h2 : m % 10 < 10 := Nat.mod_lt _ (by decide)
      have e2 : encB (UInt8.ofNat (48 + m % 10) :: l) = Nat.add (Nat.mul 256 (encB l)) (Nat.add 48 (Nat.mod m 10)) := by
        rw [encB_cons, digit_nat h2]
        show _ = 256 * encB l + (48 + m % 10)
        omega
      have := digs_lf f (m / 10) (UInt8.ofNat (48 + m % 10) :: l) c (by rw [e2]; exact hl)
      have e : Lib.decDigits m ++ l = Lib.decDigits (m / 10) ++ (UInt8.ofNat (48 + m % 10) :: l) := by
        rw [Lib.decDigits, dif_neg h1]; simp
      rw [e]; exact this
theorem oEnd_lf {x : A} {r : R} (hl : (oEnd x r).lf = some lf) : x = .nl ∧ r.lf = some lf := by
  cases x with
  | nl => exact ⟨rfl, hl⟩
  | _ => cases hl
theorem itoa_small {n : Nat} (h : n ≤ 999) : Lib.itoa (n : Int) = itB n := by
  have e : Lib.itoa (n : Int) = Lib.decDigits n := by
    unfold Lib.itoa
    rw [if_neg (by omega)]
    rfl
  rw [e]
  unfold itB
  by_cases h1 : n < 10
  · rw [if_pos h1, Lib.decDigits_one h1]
  · rw [if_neg h1]
    by_cases h2 : n < 100
    · rw [if_pos h2, Lib.decDigits, dif_neg h1, Lib.decDigits_one (by omega)]; rfl
    · rw [if_neg h2, Lib.decDigits, dif_neg h1, Lib.decDigits, dif_neg (by omega), Lib.decDigits_one (by omega), show n / 10 / 10 = n / 100 by omega]; rfl
/-- Itoa of a number that is known. -/
theorem itoaC_ans {f : Nat} (hI : ∀ (n : Int) (w : World), -9223372036854775808 ≤ n → n ≤ 9223372036854775807 → Agree W0 w → Calls P f #[.int .i64 n] w (fun e w' => e = .returned (.string ⟨(Lib.itoa n).toArray⟩) ∧ Agree w w')) {n : Nat} {h h' : H} {v r : A} (hl : (itoaC n h).lf = some (1, .cn v r, h')) :
    ∀ (α : Al) (w : World) (u : Value), HR W0 α w h → Rep α u (.int n) → Calls P f #[u] w (fun e w' => ∃ u α', e = .returned u ∧ Step W0 α w h α' w' h' ∧ Rep α' u v) := by
  obtain ⟨g1, hl⟩ := oCk_lf hl
  have g1 : n ≤ 18446744073709551615 := ble g1
  have key : ∀ (m : Int), m + 9223372036854775808 = n → v = .str (Lib.itoa m).length (encB (Lib.itoa m)) ∧ h' = h := fun m hm => by
    unfold Lib.itoa
    rcases rec_lf hl with ⟨h1, hl⟩ | ⟨h1, hl⟩
    · have h1 : 9223372036854775808 ≤ n := ble h1
      have := digs_lf 30 _ [] _ hl
      cases this
      rw [if_neg (by omega), List.append_nil, show Nat.sub n 9223372036854775808 = m.toNat from by show n - 9223372036854775808 = _; omega]
      exact ⟨rfl, rfl⟩
    · have h1 : ¬ 9223372036854775808 ≤ n := fun h => by rw [Nat.ble_eq_true_of_le h] at h1; cases h1
      have := digs_lf 30 _ [] _ hl
      cases this
      rw [if_pos (by omega), List.append_nil, show Nat.sub 9223372036854775808 n = m.natAbs from by show 9223372036854775808 - n = _; omega]
      refine ⟨?_, rfl⟩
      rw [encB_cons, List.length_cons]
      congr 1
      show 45 + 256 * _ = 45 + _ * 256
      omega
  intro α w u hr hv
  obtain ⟨m, rfl, hm⟩ := rep_int hv
  obtain ⟨rfl, rfl⟩ := key m hm
  refine (hI m w (by omega) (by omega) hr.agr).mono ?_
  rintro e w' ⟨rfl, A⟩
  exact ⟨_, α, rfl, step_agree hr A, .str (by simp) (by simp)⟩
theorem itoa_ans {f : Nat} {k : K} (hf : FnOK P f) (hI : ∀ (n : Int) (w : World), -9223372036854775808 ≤ n → n ≤ 9223372036854775807 → Agree W0 w → Calls P f #[.int .i64 n] w (fun e w' => e = .returned (.string ⟨(Lib.itoa n).toArray⟩) ∧ Agree w w')) : FnAns P W0 f (fItoa k) := fun a h v r h' hl => by
  obtain ⟨x, t, rfl, hl⟩ := oCn_lf hl
  obtain ⟨rfl, hl⟩ := oEnd_lf hl
  refine ⟨hf, fun α w args hr hargs => ?_⟩
  match args, hargs with
  | [u], .cons hv .nil =>
    rcases oIntE_lf hl with ⟨n, rfl, hq⟩ | ⟨g, b, m, i, rfl, hq⟩
    · exact itoaC_ans hI hq α w u hr hv
    · obtain ⟨rfl, rfl, hl'⟩ := oSy_lf hq
      cases hl'
      obtain ⟨rfl, q1, q2⟩ := rep_sm hv
      refine (hI _ w (by omega) (by omega) hr.agr).mono ?_
      rintro e w' ⟨rfl, A⟩
      refine ⟨_, α, rfl, step_agree hr A, .pst ?_⟩
      rw [itoa_small (by omega)]
      have := Pcs.it (i := i) (by omega) Pcs.nil
      simpa using this
theorem dget_lf {l : List (Nat × Nat)} {i : Nat} {k : Nat → R} (hl : (dget l i k).lf = some lf) : ∃ d, (i, d) ∈ l ∧ (k d).lf = some lf := by
  induction l with
  | nil => exact bad_lf hl
  | cons p l ih =>
    have hl : R.lf (@Bool.rec (fun _ => R) (dget l i k) (k p.2) (Nat.beq p.1 i)) = some lf := hl
    rcases rec_lf hl with ⟨h1, hl⟩ | ⟨_, hl⟩
    · have h1 : p.1 = i := beq h1
      exact ⟨p.2, by rw [← h1]; exact .head _, hl⟩
    · obtain ⟨d, h1, h2⟩ := ih hl
      exact ⟨d, .tail _ h1, h2⟩
theorem digL_pcs {i : Nat} (hv : Nu.val i ≤ 999) : ∀ (d j : Nat) (l : List UInt8), (itB (Nu.val i)).drop j = l → l.length = d → Pcs l (digL i d j)
  | 0, j, l, _, h2 => by rw [List.eq_nil_of_length_eq_zero h2]; exact .nil
  | d + 1, j, [], _, h2 => by cases h2
  | d + 1, j, b :: l, h1, h2 => by
    show Pcs (b :: l) (.cn (.ref 8 3 j i) (digL i d (j + 1)))
    refine .dg hv ?_ (digL_pcs hv d (j + 1) l ?_ (by simpa using h2))
    · have := congrArg (·[0]?) h1
      simpa using this
    · have := congrArg (List.drop 1) h1
      simpa [List.drop_drop] using this
theorem itoaD_ans {f : Nat} {k : K} {dt : List (Nat × Nat)} (hdt : ∀ i d, (i, d) ∈ dt → (itB (Nu.val i)).length = d) (hf : FnOK P f) (hI : ∀ (n : Int) (w : World), -9223372036854775808 ≤ n → n ≤ 9223372036854775807 → Agree W0 w → Calls P f #[.int .i64 n] w (fun e w' => e = .returned (.string ⟨(Lib.itoa n).toArray⟩) ∧ Agree w w')) : FnAns P W0 f (fItoaD dt k) := fun a h v r h' hl => by
  obtain ⟨x, t, rfl, hl⟩ := oCn_lf hl
  obtain ⟨rfl, hl⟩ := oEnd_lf hl
  refine ⟨hf, fun α w args hr hargs => ?_⟩
  match args, hargs with
  | [u], .cons hv .nil =>
    rcases oIntE_lf hl with ⟨n, rfl, hq⟩ | ⟨g, b, m, i, rfl, hq⟩
    · exact itoaC_ans hI hq α w u hr hv
    · obtain ⟨rfl, rfl, hl'⟩ := oSy_lf hq
      obtain ⟨d, hd, hl2⟩ := dget_lf hl'
      cases hl2
      obtain ⟨rfl, q1, q2⟩ := rep_sm hv
      refine (hI _ w (by omega) (by omega) hr.agr).mono ?_
      rintro e w' ⟨rfl, A⟩
      refine ⟨_, α, rfl, step_agree hr A, .pst ?_⟩
      rw [itoa_small (by omega)]
      exact digL_pcs (by omega) d 0 _ (by simp) (by simpa using hdt i d hd)
/-! Atoi -/
theorem undig_lf : ∀ (l : List UInt8) (a : Nat) (c : Nat → R) (no : R), (undig l.length (encB l) a c no).lf = some lf → (match Lib.decFrom a l with | some m => (c m).lf | none => no.lf) = some lf
  | [], a, c, no, hl => hl
  | b :: l, a, c, no, hl => by
    have e1 : Nat.mod (encB (b :: l)) 256 = b.toNat := by
      show (b.toNat + encB l * 256) % 256 = _
      have := b.toNat_lt
      omega
    have e2 : Nat.div (encB (b :: l)) 256 = encB l := by
      show (b.toNat + encB l * 256) / 256 = _
      have := b.toNat_lt
      omega
    have hl : R.lf (@Bool.rec (fun _ => R) no (@Bool.rec (fun _ => R) no (undig l.length (Nat.div (encB (b :: l)) 256) (Nat.add (Nat.mul 10 a) (Nat.sub (Nat.mod (encB (b :: l)) 256) 48)) c no) (Nat.ble (Nat.mod (encB (b :: l)) 256) 57)) (Nat.ble 48 (Nat.mod (encB (b :: l)) 256))) = some lf := hl
    rw [e1, e2] at hl
    unfold Lib.decFrom Lib.digitVal
    rcases rec_lf hl with ⟨h1, hl⟩ | ⟨h1, hl⟩
    · have h1 : 48 ≤ b.toNat := ble h1
      rcases rec_lf hl with ⟨h2, hl⟩ | ⟨h2, hl⟩
      · have h2 : b.toNat ≤ 57 := ble h2
        rw [if_pos ⟨h1, h2⟩]
        have := undig_lf l _ c no hl
        have e : Nat.add (Nat.mul 10 a) (Nat.sub b.toNat 48) = a * 10 + (b.toNat - 48) := by show 10 * a + (b.toNat - 48) = _; omega
        rw [e] at this
        exact this
      · rw [if_neg fun h => by rw [Nat.ble_eq_true_of_le h.2] at h2; cases h2]
        exact hl
    · rw [if_neg fun h => by rw [Nat.ble_eq_true_of_le h.1] at h1; cases h1]
      exact hl
theorem dec_cases {l : List UInt8} {c : Nat → R} {no : R} (hl : (match Lib.decFrom 0 l with | some m => (c m).lf | none => no.lf) = some lf) : (∃ m, Lib.decFrom 0 l = some m ∧ (c m).lf = some lf) ∨ (Lib.decFrom 0 l = none ∧ no.lf = some lf) := by
  cases h : Lib.decFrom 0 l with
  | none => rw [h] at hl; exact .inr ⟨rfl, hl⟩
  | some m => rw [h] at hl; exact .inl ⟨m, rfl, hl⟩
theorem dec_bound : ∀ (l : List UInt8) (a m : Nat), Lib.decFrom a l = some m → m < (a + 1) * 10 ^ l.length
  | [], a, m, h => by cases h; simp
  | b :: l, a, m, h => by
    unfold Lib.decFrom Lib.digitVal at h
    split at h
    · rename_i d hd
      split at hd
      · cases hd
        have := dec_bound l _ m h
        rw [List.length_cons, Nat.pow_succ]
        have e : (a + 1) * (10 ^ l.length * 10) = ((a + 1) * 10) * 10 ^ l.length := by rw [Nat.mul_comm (10 ^ l.length) 10, Nat.mul_assoc]
        rw [e]
        exact Nat.lt_of_lt_of_le this (Nat.mul_le_mul_right _ (by omega))
      · cases hd
    · cases h
/-- What Atoi answers, on the bytes. -/
theorem atoi_lf {l : List UInt8} {h : H} {k : K} {v r : A} {h' : H} (hl : (fAtoi k (.cn (.str l.length (encB l)) .nl) h).lf = some (1, .cn v r, h')) : l.length ≤ 18 ∧ h' = h ∧
    ((∃ m : Int, Lib.atoi l = some m ∧ ∃ n : Nat, m + 9223372036854775808 = n ∧ v = .nd 1 (.cn (.int n) (.cn (.ref 6 0 0 0) .nl))) ∨ (Lib.atoi l = none ∧ v = .nd 1 (.cn (.int 9223372036854775808) (.cn (.ref 7 0 0 0) .nl)))) := by
  have hl : (oCk (Nat.ble l.length 18) _).lf = some _ := hl
  obtain ⟨g1, hl⟩ := oCk_lf hl
  have g1 : l.length ≤ 18 := ble g1
  refine ⟨g1, ?_⟩
  cases l with
  | nil => cases hl; exact ⟨rfl, .inr ⟨rfl, rfl⟩⟩
  | cons b l =>
    have e1 : Nat.mod (encB (b :: l)) 256 = b.toNat := by
      show (b.toNat + encB l * 256) % 256 = _
      have := b.toNat_lt
      omega
    have e2 : Nat.div (encB (b :: l)) 256 = encB l := by
      show (b.toNat + encB l * 256) / 256 = _
      have := b.toNat_lt
      omega
    have hb : ∀ (m : Nat) (l : List UInt8), l.length ≤ 18 → Lib.decFrom 0 l = some m → m ≤ 1000000000000000000 := fun m l hlen hd => by
      have h1 := dec_bound l 0 m hd
      have h2 : 10 ^ l.length ≤ 10 ^ 18 := Nat.pow_le_pow_right (by decide) hlen
      omega
    rcases rec_lf hl with ⟨_, hl⟩ | ⟨h43, hl⟩
    · exact bad_lf hl
    rw [e1] at h43
    rw [e2] at hl
    have h43 : b ≠ 43 := fun e => by rw [e] at h43; cases h43
    rcases rec_lf hl with ⟨h45, hl⟩ | ⟨h45, hl⟩ <;> rw [e1] at h45
    · have h45 : b = 45 := UInt8.toNat_inj.1 (beq h45)
      have ha : Lib.atoi (b :: l) = (Lib.decNat l).map fun (m : Nat) => -(m : Int) := by
        unfold Lib.atoi; rw [h45]; rfl
      rw [ha]
      rcases rec_lf hl with ⟨h1, hl⟩ | ⟨h1, hl⟩
      · have : (b :: l).length = 1 := beq h1
        have : l = [] := List.eq_nil_of_length_eq_zero (by simpa using this)
        subst this
        cases hl
        exact ⟨rfl, .inr ⟨rfl, rfl⟩⟩
      · have hne : l.isEmpty = false := by
          cases l with
          | nil => cases h1
          | cons _ _ => rfl
        have hd : Lib.decNat l = Lib.decFrom 0 l := by unfold Lib.decNat; rw [hne]; rfl
        rw [hd]
        rcases dec_cases (undig_lf l 0 _ _ hl) with ⟨m, d1, hl⟩ | ⟨d1, hl⟩
        · cases hl
          have := hb m l (by simp at g1; omega) d1
          exact ⟨rfl, .inl ⟨_, by rw [d1]; rfl, _, by show -(m : Int) + 9223372036854775808 = ((9223372036854775808 - m : Nat) : Int); omega, rfl⟩⟩
        · cases hl
          exact ⟨rfl, .inr ⟨by rw [d1]; rfl, rfl⟩⟩
    · have h45 : b ≠ 45 := fun e => by rw [e] at h45; cases h45
      have ha : Lib.atoi (b :: l) = (Lib.decFrom 0 (b :: l)).map fun (m : Nat) => (m : Int) := by
        have c1 : (b == 45) = false := by simpa using h45
        have c2 : (b == 43) = false := by simpa using h43
        unfold Lib.atoi
        simp only [c1, c2]
        rfl
      rw [ha]
      rcases dec_cases (undig_lf (b :: l) 0 _ _ hl) with ⟨m, d1, hl⟩ | ⟨d1, hl⟩
      · cases hl
        exact ⟨rfl, .inl ⟨_, by rw [d1]; rfl, _, by show (m : Int) + 9223372036854775808 = ((9223372036854775808 + m : Nat) : Int); omega, rfl⟩⟩
      · cases hl
        exact ⟨rfl, .inr ⟨by rw [d1]; rfl, rfl⟩⟩
theorem atoi_ans {f : Nat} {k : K} (hf : FnOK P f) (h1 : ∀ (s : ByteArray) (n : Int) (w : World), s.size ≤ 18 → Lib.atoi s.data.toList = some n → Agree W0 w → Calls P f #[.string s] w (fun e w' => e = .returned (.tuple #[.int .i64 n, .nilIface]) ∧ Agree w w'))
    (h2 : ∀ (s : ByteArray) (w : World), s.size ≤ 18 → Lib.atoi s.data.toList = none → Agree W0 w → Calls P f #[.string s] w (fun e w' => (∃ t v, e = .returned (.tuple #[.int .i64 0, .iface t v])) ∧ Agree w w')) : FnAns P W0 f (fAtoi k) := fun a h v r h' hl => by
  have hl0 := hl
  obtain ⟨x, t, rfl, hl⟩ := oCn_lf hl
  obtain ⟨rfl, hl⟩ := oEnd_lf hl
  obtain ⟨n, N, rfl, hl⟩ := oStr_lf hl
  refine ⟨hf, fun α w args hr hargs => ?_⟩
  match args, hargs with
  | [u], .cons hv .nil =>
    obtain ⟨s, rfl, e1, e2⟩ := rep_str hv
    rw [← e1, ← e2] at hl0
    obtain ⟨g1, rfl, g2⟩ := atoi_lf hl0
    have hsz : s.size ≤ 18 := by rw [bsize]; exact g1
    rcases g2 with ⟨m, m1, n, m2, rfl⟩ | ⟨m1, rfl⟩
    · refine (h1 s m w hsz m1 hr.agr).mono ?_
      rintro e w' ⟨rfl, A⟩
      exact ⟨_, α, rfl, step_agree hr A, .tup (.cons (.int m2) (.cons (.ref .nif) .nil))⟩
    · refine (h2 s w hsz m1 hr.agr).mono ?_
      rintro e w' ⟨⟨t, v, rfl⟩, A⟩
      exact ⟨_, α, rfl, step_agree hr A, .tup (.cons (.int rfl) (.cons (.ref .err) .nil))⟩
/-! Join -/
theorem joinL_lf {sep : List UInt8} : ∀ (l : A) (vs : List Value) (acc : List UInt8) (c : Nat → Nat → R), RepL α vs l → (joinL l sep.length (encB sep) acc.length (encB acc) c).lf = some lf →
    ∃ xs : List ByteArray, vs = xs.map .string ∧ (c (acc ++ Lib.joinTail sep (xs.map (·.data.toList))).length (encB (acc ++ Lib.joinTail sep (xs.map (·.data.toList))))).lf = some lf
  | .nl, _, acc, c, .nil, hl => by
    have hl : (c acc.length (encB acc)).lf = some lf := hl
    exact ⟨[], rfl, by simpa [Lib.joinTail] using hl⟩
  | .cn x l, _, acc, c, .cons hv ht, hl => by
    obtain ⟨p, Q, rfl, hl⟩ := oStr_lf hl
    obtain ⟨s, rfl, e1, e2⟩ := rep_str hv
    have e3 : (acc ++ (sep ++ s.data.toList)).length = Nat.add acc.length (Nat.add sep.length p) := by rw [← e1]; simp
    have e4 : encB (acc ++ (sep ++ s.data.toList)) = Nat.add (encB acc) (Nat.mul (Nat.add (encB sep) (Nat.mul Q (Nat.pow 2 (Nat.mul 8 sep.length)))) (Nat.pow 2 (Nat.mul 8 acc.length))) := by
      rw [encB_app, encB_app, e2]
      show _ = encB acc + (encB sep + Q * 2 ^ (8 * sep.length)) * 2 ^ (8 * acc.length)
      rw [pow8, pow8]
    have hl : (joinL l sep.length (encB sep) (Nat.add acc.length (Nat.add sep.length p)) (Nat.add (encB acc) (Nat.mul (Nat.add (encB sep) (Nat.mul Q (Nat.pow 2 (Nat.mul 8 sep.length)))) (Nat.pow 2 (Nat.mul 8 acc.length)))) c).lf = some lf := hl
    rw [← e3, ← e4] at hl
    obtain ⟨xs, h1, h2⟩ := joinL_lf l _ (acc ++ (sep ++ s.data.toList)) c ht hl
    refine ⟨s :: xs, by rw [h1]; rfl, ?_⟩
    have e5 : acc ++ Lib.joinTail sep ((s :: xs).map (·.data.toList)) = acc ++ (sep ++ s.data.toList) ++ Lib.joinTail sep (xs.map (·.data.toList)) := by simp [Lib.joinTail]
    rw [e5]; exact h2
theorem join_ans {f : Nat} {k : K} (hf : FnOK P f) (h1 : ∀ (a : Option Addr) (c : Nat) (sep : ByteArray) (w : World), Agree W0 w → Calls P f #[.slice a 0 c, .string sep] w (fun e w' => e = .returned (.string ⟨#[]⟩) ∧ Agree w w'))
    (h2 : ∀ (bk o c : Nat) (xs : List ByteArray) (sep : ByteArray) (w : World), (∀ (j : Nat) x, xs[j]? = some x → w.cell? ⟨bk, o + j, none⟩ = some (.string x)) → bk < w.heap.size → xs.length ≤ 1000000 → xs.length ≤ c → (Lib.join (xs.map (·.data.toList)) sep.data.toList).length ≤ 1000000 → Agree W0 w →
      Calls P f #[.slice (some ⟨bk, o, none⟩) xs.length c, .string sep] w (fun e w' => e = .returned (.string ⟨(Lib.join (xs.map (·.data.toList)) sep.data.toList).toArray⟩) ∧ Agree w w')) : FnAns P W0 f (fJoin k) := fun a h v r h' hl => by
  obtain ⟨s, t, rfl, hl1⟩ := oCn_lf hl
  obtain ⟨sp, t2, rfl, hl2⟩ := oCn_lf hl1
  obtain ⟨rfl, hl3⟩ := oEnd_lf hl2
  obtain ⟨m, M, rfl, hl4⟩ := oStr_lf hl3
  obtain ⟨n, l, hl5, hlen, hcells⟩ := oCells_sound (P := P) (Nat.lt_succ_self 0) hl4
  obtain ⟨hn1, hl⟩ := oCk_lf hl5
  obtain ⟨sg, sb, so, sn, hs, hl6⟩ := oRef_lf hl4
  have hsg : sg = 3 ∨ sg = 11 := by
    rcases rec_lf hl6 with ⟨q, _⟩ | ⟨_, q⟩
    · exact .inl (beq q)
    · exact .inr (beq (oCk_lf q).1)
  clear hl1 hl2 hl3 hl4 hl5 hl6
  refine ⟨hf, fun α w args hr hargs => ?_⟩
  match args, hargs with
  | [u, u2], .cons hv (.cons hv2 .nil) =>
    obtain ⟨sep, rfl, e1, e2⟩ := rep_str hv2
    rcases hcells h (Mono.refl h) W0 α w u hr hv with ⟨rfl, rfl, rfl⟩ | ⟨ad, cp, vs, rfl, hc, hcell⟩
    · cases hl
      refine (h1 none 0 sep w hr.agr).mono ?_
      rintro e w' ⟨rfl, A⟩
      exact ⟨_, α, rfl, step_agree hr A, .str rfl rfl⟩
    · have hrep := hc.rep
      have hlen := hc.len
      rw [Nat.mul_one] at hlen
      cases l with
      | nl =>
        cases hl
        cases hrep
        have hn : n = 0 := hlen.symm
        subst hn
        refine (h1 (some ad) cp sep w hr.agr).mono ?_
        rintro e w' ⟨rfl, A⟩
        exact ⟨_, α, rfl, step_agree hr A, .str rfl rfl⟩
      | cn x l =>
        obtain ⟨p, Q, rfl, hl⟩ := oStr_lf hl
        cases hrep with
        | cons hx ht =>
        rename_i vx vr
        obtain ⟨s0, rfl, f1, f2⟩ := rep_str hx
        rw [← e1, ← e2, ← f1, ← f2] at hl
        obtain ⟨xs, x1, hl⟩ := joinL_lf l _ s0.data.toList _ ht hl
        obtain ⟨g1, hl⟩ := mkS_lf hl
        cases hl
        have hj : s0.data.toList ++ Lib.joinTail sep.data.toList (xs.map (·.data.toList)) = Lib.join ((s0 :: xs).map (·.data.toList)) sep.data.toList := by
          rw [List.map_cons, Lib.join_cons]
        rw [hj] at g1 ⊢
        have hxs : Value.string s0 :: vr = (s0 :: xs).map .string := by rw [x1]; rfl
        have hn : n = (s0 :: xs).length := by rw [← hlen, hxs, List.length_map]
        have had : ∃ bk o, ad = ⟨bk, o, none⟩ ∧ bk < w.heap.size ∧ n ≤ cp := by
          have hpos : 0 < n := by rw [hn]; simp
          rw [hs] at hv
          cases hv with
          | ref hv =>
            generalize hsl : Value.slice (some ad) n cp = z at hv
            cases hv with
            | sl hL hg hz ho hnn hcc hadd =>
              cases hsl
              rcases hadd with h0 | h0
              · omega
              · exact ⟨_, _, h0, (hr.dom _ _ hL).2.2, hnn⟩
            | inp => omega
            | _ => cases hsl
        obtain ⟨bk, o, rfl, hbk, hcp⟩ := had
        have hcj : ∀ (j : Nat) y, (s0 :: xs)[j]? = some y → w.cell? ⟨bk, o + j, none⟩ = some (.string y) := fun j y hy => by
          rw [← addr_add]
          refine hcell j _ ?_
          rw [hxs, List.getElem?_map, hy]; rfl
        have h11 : (s0 :: xs).length ≤ 1000000 := by
          have h5 : n ≤ 1000000 := ble hn1
          omega
        rw [hn] at hcp ⊢
        refine (h2 bk o cp (s0 :: xs) sep w hcj hbk h11 hcp g1 hr.agr).mono ?_
        rintro e w' ⟨rfl, A⟩
        exact ⟨_, α, rfl, step_agree hr A, .str (by simp) (by simp)⟩
      | _ => exact bad_lf hl
end
end Go.X1

set_option maxRecDepth 100000
namespace Go.X1
variable [Nu]
section
variable {P : Program} {TT : List TI} {W0 : World} {k : K}
theorem tabB_of (h : (List.range TT.length).all (fun t => match TT[t]? with | some i => Nat.ble (P.bytesOf t) 1000000 && (Nat.beq i.size 0 || Nat.beq i.zero.length i.size) && (i.agg || Nat.beq i.size 1) | none => true) = true) : TabB P TT := by
  intro t i hi
  have ht : t < TT.length := by
    rcases Nat.lt_or_ge t TT.length with h | h
    · exact h
    · rw [List.getElem?_eq_none h] at hi; cases hi
  have := List.all_eq_true.1 h t (List.mem_range.2 ht)
  rw [hi] at this
  simp only [Bool.and_eq_true, Bool.or_eq_true, Nat.beq_eq, Nat.ble_eq] at this
  obtain ⟨⟨h1, h2⟩, h3⟩ := this
  exact ⟨h1, fun h => h2.resolve_left h, fun h => h3.resolve_left (by rw [h]; simp)⟩
def noAgg : Option Value → Bool
  | some (.agg _) => false
  | _ => true
theorem tabZ_of (h : (List.range TT.length).all (fun t => match TT[t]? with | some i => i.agg || noAgg ((P.info? t).bind (·.zero)) | none => true) = true) : TabZ P TT := by
  intro t i hi ha z hz
  have ht : t < TT.length := by
    rcases Nat.lt_or_ge t TT.length with h | h
    · exact h
    · rw [List.getElem?_eq_none h] at hi; cases hi
  have := List.all_eq_true.1 h t (List.mem_range.2 ht)
  rw [hi] at this
  simp only [ha, hz, Bool.false_or] at this
  cases z with
  | agg _ => cases this
  | _ => rfl
theorem tabF_of (h : TT.all (fun i => match i.kind with | .struct fs => fs.all (fun f => (TT[f.2]?).isSome) | _ => true) = true) (hz : (List.range TT.length).all (fun t => match TT[t]? with | some i => i.agg || noAgg ((P.info? t).bind (·.zero)) | none => true) = true) : TabF P TT := by
  refine ⟨?_, tabZ_of hz⟩
  intro t i fs hi hk f hf
  have := List.all_eq_true.1 h i (List.mem_of_getElem? hi)
  rw [hk] at this
  exact List.all_eq_true.1 this f hf
theorem fnAns_of {Γ : Cx} {n : Nat} {c : Code} {F : K → A → H → R} {f : FuncId} {fn : Func} (e : denF Γ n c = F) (hf : P.funcs[f]? = some fn) (hb : fn.body = some c) (hnm : (fn.name == "runtime.NumGoroutine") = false)
    (hΓ : Γ.T = TT) (hnt : Γ.nt = fn.ntmps) (hrs : Γ.rs = fn.results.toList) (hm : P.follows .mixedOrders = true) (hT : TabOK P TT) (hB : TabB P TT) (hF : TabF P TT) (hk : CallOK P W0 k) : FnAns P W0 f (F k) := fun a h v r h' hl =>
  func_sound hm hf hb hnm hΓ hnt hrs hT hB hF hk (by rw [e]; exact hl)
theorem isT_lf {r : R} (h : isT r = true) : ∃ t h', r.lf = some (1, .cn (.bool true) t, h') := by
  cases r with
  | bad => cases h
  | go e vs h1 =>
    cases hb : Nat.beq e 1
    · have h : (@Bool.rec (fun _ => Bool) false _ (Nat.beq e 1)) = true := h
      rw [hb] at h; cases h
    · have h : (@Bool.rec (fun _ => Bool) false _ (Nat.beq e 1)) = true := h
      rw [hb] at h
      have he : e = 1 := beq hb
      subst he
      cases vs with
      | cn x t =>
        cases x with
        | bool b =>
          have h : b = true := h
          subst h
          exact ⟨t, h1, rfl⟩
        | _ => cases h
      | _ => cases h
theorem hr_empty (W0 : World) : HR W0 (fun _ => none) W0 (.mk .lf 0 0) :=
  ⟨.refl W0, Nat.le_refl _, rfl, (fun _ _ e => by cases e), (fun _ _ e => by cases e), (fun _ _ _ _ e => by cases e)⟩
/-- A law without arguments. -/
theorem law_of {f : Nat} (hk : CallOK P W0 k) (h : isT (k f .nl (.mk .lf 0 0)) = true) : FnOK P f ∧ Calls P f #[] W0 (fun e w' => e = .returned (.bool true) ∧ Agree W0 w') := by
  obtain ⟨t, h', hl⟩ := isT_lf h
  obtain ⟨h1, h2⟩ := hk f _ _ _ _ _ hl
  refine ⟨h1, (h2 _ W0 [] (hr_empty W0) .nil).mono ?_⟩
  rintro e w' ⟨u, α', rfl, s, r⟩
  rw [rep_bool r]
  exact ⟨rfl, s.hr.agr⟩
end
end Go.X1

set_option maxRecDepth 100000
namespace Go.X1
variable [Nu]
theorem dropT_get (lo M : Nat) : ∀ (t : T B) (a b i : Nat), tget .no (dropT lo M t a b) i = if a * i + b < lo ∨ bit M (a * i + b) = true then tget .no t i else .no
  | .lf, a, b, i => by
    show B.no = if _ then B.no else B.no
    split <;> rfl
  | .nd x l r, a, b, i => by
    have e : dropT lo M (.nd x l r) a b = .nd (@Bool.rec (fun _ => B) (@Bool.rec (fun _ => B) .no x (bit M b)) x (Nat.blt b lo)) (dropT lo M l (2 * a) (a + b)) (dropT lo M r (2 * a) (2 * a + b)) := rfl
    rw [e, tget_nd, tget_nd]
    by_cases h0 : i = 0
    · subst h0
      rw [if_pos rfl, if_pos rfl, Nat.mul_zero, Nat.zero_add]
      by_cases h1 : b < lo
      · have : Nat.blt b lo = true := by rw [nat_blt]; simp [h1]
        rw [this, if_pos (.inl h1)]
      · have : Nat.blt b lo = false := by rw [nat_blt]; simp [h1]
        rw [this]
        cases hb : bit M b
        · rw [if_neg (by simp [h1])]
        · rw [if_pos (.inr rfl)]
    · rw [if_neg h0, if_neg h0]
      by_cases h1 : i % 2 = 1
      · rw [if_pos h1, if_pos h1, dropT_get lo M l]
        have : 2 * a * (i / 2) + (a + b) = a * i + b := by
          have h2 : i = 2 * (i / 2) + 1 := by omega
          have h3 : a * i = a * (2 * (i / 2) + 1) := by rw [← h2]
          rw [h3, Nat.mul_add, Nat.mul_one, ← Nat.mul_assoc, Nat.mul_comm a 2]; omega
        rw [this]
      · rw [if_neg h1, if_neg h1, dropT_get lo M r]
        have : 2 * a * (i / 2 - 1) + (2 * a + b) = a * i + b := by
          have h2 : i = 2 * (i / 2 - 1) + 2 := by omega
          have h3 : a * i = a * (2 * (i / 2 - 1) + 2) := by rw [← h2]
          rw [h3, Nat.mul_add, ← Nat.mul_assoc, Nat.mul_comm a 2]; omega
        rw [this]
theorem dropT_full (lo M : Nat) : ∀ (t : T B) (a b n : Nat), Full t n → Full (dropT lo M t a b) n
  | .lf, _, _, _, h => h
  | .nd x l r, a, b, n, h => ⟨h.1, dropT_full lo M l _ _ _ h.2.1, dropT_full lo M r _ _ _ h.2.2⟩
section
variable {P : Program} {W0 : World} {α : Al} {w : World} {h h' : H}
theorem dropH_get (lo M : Nat) (h : H) (b : Nat) : tget .no (dropH lo M h).tr b = if b < lo ∨ bit M b = true then tget .no h.tr b else .no := by
  cases h with | mk t n r =>
  show tget .no (dropT lo M t 1 0) b = _
  rw [dropT_get]; simp; rfl
theorem HR.drop (hr : HR W0 α w h) (lo M : Nat) : HR W0 α w (dropH lo M h) where
  agr := hr.agr
  ro := by cases h; exact hr.ro
  full := by cases h with | mk t n r => exact dropT_full lo M t 1 0 n hr.full
  dom b L e := by
    obtain ⟨q1, q2, q3⟩ := hr.dom b L e
    exact ⟨by cases h; exact q1, q2.imp id fun q => by cases h; exact q, q3⟩
  blk b L e := by
    rw [dropH_get]
    split
    · exact hr.blk b L e
    · trivial
  dis b b' L L' e e' g g' q := by
    rw [dropH_get] at g g'
    split at g
    · split at g'
      · exact hr.dis b b' L L' e e' g g' q
      · exact absurd rfl g'
    · exact absurd rfl g
theorem Step.drop {α' : Al} {w' : World} (s : Step W0 α w h α' w' h') (hro : h.ro ≤ h.nx) (M : Nat) : Step W0 α w h α' w' (dropH h.nx M h') where
  hr := s.hr.drop h.nx M
  ext := s.ext
  fr := s.fr
  ro := ⟨by have := s.ro.ro; cases h'; exact this, by have := s.ro.nx; cases h'; exact this, fun b hb => by rw [dropH_get, if_pos (.inl (by omega))]; exact s.ro.keep b hb⟩
  un b hb e := by rw [dropH_get, if_pos (.inl hb)]; exact s.un b hb e
theorem gc_ans {f : Nat} {F : K → A → H → R} {k : K} (M : Nat) (hF : FnAns P W0 f (F k)) : FnAns P W0 f (gcF M F k) := fun a h v r h' hl => by
  have hl := oH_lf hl
  cases hf : F k a h with
  | bad => rw [hf] at hl; cases hl
  | go e vs h1 =>
    rw [hf] at hl
    have hl2 : (some (e, vs, dropH h.nx M h1) : Option (Nat × A × H)) = some (1, .cn v r, h') := hl
    cases hl2
    obtain ⟨q1, q2⟩ := hF a h v r h1 (by rw [hf]; rfl)
    refine ⟨q1, fun α w args hr hargs => (q2 α w args hr hargs).mono ?_⟩
    rintro e w' ⟨u, α', rfl, s, rp⟩
    exact ⟨u, α', rfl, s.drop hr.ro M, rp⟩
theorem oCall_eq {k : K} {f : Nat} {a v r : A} {h h' : H} {c : A → H → R} (e : k f a h = .go 1 (.cn v r) h') : oCall k f a h c = c v h' := by
  unfold oCall; rw [e]; rfl
theorem isRes_eq {y : A} {r : R} (h : isRes y r = true) : ∃ t h', r = .go 1 (.cn y t) h' ∨ (y = .nl ∧ ∃ vs, r = .go 1 vs h') := by
  cases r with
  | bad => cases h
  | go e vs h1 =>
    have h : (@Bool.rec (fun _ => Bool) false (eqA (hd vs) y) (Nat.beq e 1)) = true := h
    cases hb : Nat.beq e 1
    · rw [hb] at h; cases h
    · rw [hb] at h
      have he : e = 1 := beq hb
      subst he
      have hy := eqA_eq _ _ h
      cases vs with
      | cn x t =>
        have : x = y := hy
        subst this
        exact ⟨t, h1, .inl rfl⟩
      | _ => exact ⟨.nl, h1, .inr ⟨hy.symm, _, rfl⟩⟩
end
end Go.X1

set_option maxRecDepth 100000
namespace Go.X1
variable [Nu]
theorem brec_and {x y : Bool} (h : (@Bool.rec (fun _ => Bool) false y x) = true) : x = true ∧ y = true := by
  cases x
  · cases h
  · exact ⟨rfl, h⟩
theorem eqTA_eq : ∀ (t u : T A), eqTA t u = true → t = u
  | .lf, .lf, _ => rfl
  | .lf, .nd _ _ _, h => by cases h
  | .nd _ _ _, .lf, h => by cases h
  | .nd x l r, .nd y l2 r2, h => by
    obtain ⟨h1, h⟩ := brec_and (x := eqA x y) (y := @Bool.rec (fun _ => Bool) false (eqTA r r2) (eqTA l l2)) h
    obtain ⟨h2, h3⟩ := brec_and h
    rw [eqA_eq _ _ h1, eqTA_eq l l2 h2, eqTA_eq r r2 h3]
theorem eqBB_eq (x y : B) (h : eqBB x y = true) : x = y := by
  cases x with
  | no => cases y with
    | no => rfl
    | _ => cases h
  | cs n lo t => cases y with
    | cs m l u =>
      obtain ⟨h1, h⟩ := brec_and (x := Nat.beq n m) (y := @Bool.rec (fun _ => Bool) false (eqTA t u) (Nat.beq lo l)) h
      obtain ⟨h2, h3⟩ := brec_and h
      rw [beq h1, beq h2, eqTA_eq _ _ h3]
    | _ => cases h
  | mp k es => cases y with
    | mp m l =>
      obtain ⟨h1, h2⟩ := brec_and (x := Nat.beq k m) (y := eqA es l) h
      rw [beq h1, eqA_eq _ _ h2]
    | _ => cases h
theorem eqTB_eq : ∀ (t u : T B), eqTB t u = true → t = u
  | .lf, .lf, _ => rfl
  | .lf, .nd _ _ _, h => by cases h
  | .nd _ _ _, .lf, h => by cases h
  | .nd x l r, .nd y l2 r2, h => by
    obtain ⟨h1, h⟩ := brec_and (x := eqBB x y) (y := @Bool.rec (fun _ => Bool) false (eqTB r r2) (eqTB l l2)) h
    obtain ⟨h2, h3⟩ := brec_and h
    rw [eqBB_eq _ _ h1, eqTB_eq l l2 h2, eqTB_eq r r2 h3]
theorem eqHH_eq (x y : H) (h : eqHH x y = true) : x.tr = y.tr ∧ x.nx = y.nx := by
  cases x with | mk t n r =>
  cases y with | mk u m q =>
  obtain ⟨h1, h2⟩ := brec_and (x := Nat.beq n m) (y := eqTB t u) h
  exact ⟨eqTB_eq _ _ h2, beq h1⟩
def H.lck (h : H) : H := .mk h.tr h.nx h.nx
section
variable {P : Program} {W0 : World} {k : K} {F : K → A → H → R} {f : Nat}
/-- A call that is known. -/
def KnownOK (P : Program) (W0 : World) (f : Nat) (p : Known) : Prop := FnOK P f ∧ flat p.x = true ∧ ∀ (α : Al) (w : World) (args : List Value), HR W0 α w p.h.lck → RepL α args p.a → Calls P f ⟨args⟩ w (fun e w' => ∃ u α' h', e = .returned u ∧ Step W0 α w p.h.lck α' w' h' ∧ Rep α' u p.x)
theorem isRes_lf {y : A} {r : R} (h : isRes y r = true) (hy : y ≠ .nl) : ∃ t h', r.lf = some (1, .cn y t, h') := by
  obtain ⟨t, h', h | ⟨h, _⟩⟩ := isRes_eq h
  · exact ⟨t, h', by rw [h]; rfl⟩
  · exact absurd h hy
theorem known_of {p : Known} (hk : CallOK P W0 k) (hy : p.x ≠ .nl) (h : isRes p.x (oCallP k f p.a p.h fun v h => ret1 v h) = true) : KnownOK P W0 f p := by
  obtain ⟨t, h', hl⟩ := isRes_lf h hy
  have hl := oH_lf hl
  obtain ⟨v, t2, h2, h1, hl⟩ := rCall_lf hl
  obtain ⟨g1, hl⟩ := oCk_lf hl
  cases hl
  obtain ⟨hf, hc⟩ := hk f _ _ _ t2 h2 h1
  refine ⟨hf, g1, fun α w args hr ha => (hc α w args hr ha).mono ?_⟩
  rintro e w' ⟨u, α', rfl, s1, s2⟩
  exact ⟨u, α', h2, rfl, s1, s2⟩
theorem fRun_ans {l : List Known} (hL : ∀ p ∈ l, KnownOK P W0 f p) (hF : FnAns P W0 f (F k)) : FnAns P W0 f (fRun l F k) := by
  induction l with
  | nil => exact hF
  | cons p l ih =>
    intro a h v r h' hl
    have ih := ih (fun q hq => hL q (.tail _ hq)) a h v r h'
    have hl : R.lf (@Bool.rec (fun _ => R) (fRun l F k a h) (@Bool.rec (fun _ => R) (fRun l F k a h) (ret1 p.x h) (eqHH h p.h)) (eqA a p.a)) = some (1, .cn v r, h') := hl
    rcases rec_lf hl with ⟨h1, hl⟩ | ⟨_, hl⟩
    · rcases rec_lf hl with ⟨h2, hl⟩ | ⟨_, hl⟩
      · cases hl
        obtain ⟨hf, hx, hc⟩ := hL p (.head _)
        obtain ⟨e1, e2⟩ := eqHH_eq _ _ h2
        have e3 : H.lck h = p.h.lck := by unfold H.lck; rw [e1, e2]
        refine ⟨hf, fun α w args hr ha => ?_⟩
        rw [eqA_eq _ _ h1] at ha
        have hr2 : HR W0 α w (H.lck h) := hr.lock
        rw [e3] at hr2
        refine (hc α w args hr2 ha).mono ?_
        rintro e w' ⟨u, α', h3, rfl, s1, s2⟩
        rw [← e3] at s1
        exact ⟨u, α, rfl, step_back hr s1, flat_rep hx s2⟩
      · exact ih hl
    · exact ih hl
/-! Texts -/
def KnownT.h (p : KnownT) : H := .mk (.nd (.cs p.m 0 p.t) .lf .lf) 1 1
theorem KnownT.full (p : KnownT) : Full p.h.tr p.h.nx := ⟨(by decide : 0 < 1), (rfl : 1 / 2 = 0), (rfl : (1 - 1) / 2 = 0)⟩
def KnownT.a (p : KnownT) : A := .cn p.v (.cn (.ref p.g 0 0 p.n) .nl)
structure TextOK (P : Program) (W0 : World) (f : Nat) (p : KnownT) : Prop where
  fn : FnOK P f
  fx : flat p.x = true
  fv : flat p.v = true
  ft : ∀ i, i < p.m → flat (tget junk p.t i) = true
  g : p.g = 3 ∨ 11 ≤ p.g
  ans : ∀ (α : Al) (w : World) (args : List Value), HR W0 α w p.h → RepL α args p.a → Calls P f ⟨args⟩ w (fun e w' => ∃ u α' h', e = .returned u ∧ Step W0 α w p.h α' w' h' ∧ Rep α' u p.x)
theorem step_iso {α α1 : Al} {w w' : World} {h : H} {b : Nat} {L : Loc} {p : KnownT} (hr : HR W0 α w h) (hb : α b = some L) (hB : tget .no h.tr b = .cs p.m 0 p.t) (ft : ∀ i, i < p.m → flat (tget junk p.t i) = true) {h1 : H}
    (s : Step W0 (fun i => if i = 0 then some L else none) w p.h α1 w' h1) : Step W0 α w h α w' h := by
  have hfr : ∀ k, k < w.heap.size → L.blk ≠ k → w'.heap[k]? = w.heap[k]? := fun k hk hne => s.fr.keep k hk fun b0 L0 e0 => by
    have e0 : (if b0 = 0 then some L else none) = some L0 := e0
    split at e0
    · cases e0; exact hne
    · cases e0
  have hblk : BR α w' L (tget .no h.tr b) := by
    have q1 := hr.blk b L hb
    rw [hB] at q1 ⊢
    have q2 := s.hr.blk 0 L (s.ext.le 0 L rfl)
    rw [s.ro.keep 0 (by show 0 < 1; decide)] at q2
    have q2 : BR α1 w' L (.cs p.m 0 p.t) := q2
    obtain ⟨a1, a2, a3, a4, cs, el, a5, a6, a7⟩ := q2
    exact ⟨a1, a2, a3, a4, cs, el, a5, a6, fun i i1 i2 => let ⟨v, v1, v2, v3⟩ := a7 i i1 i2; ⟨v, v1, v2, flat_rep (ft i i2) v3⟩⟩
  refine ⟨⟨s.hr.agr, hr.ro, hr.full, fun c M e => ?_, fun c M e => ?_, hr.dis⟩, .refl _ _ _, ⟨s.fr.size, fun k hk hn => hfr k hk (hn b L hb), s.fr.os, s.fr.out⟩, .refl _, fun _ _ _ => rfl⟩
  · obtain ⟨q1, q2, q3⟩ := hr.dom c M e
    exact ⟨q1, q2, Nat.lt_of_lt_of_le q3 s.fr.size⟩
  · by_cases hc : c = b
    · subst hc
      rw [hb] at e; cases e
      exact hblk
    · by_cases hd : tget .no h.tr c = .no
      · rw [hd]; trivial
      · have hne : L.blk ≠ M.blk := fun q => hc (hr.dis c b M L e hb hd (by rw [hB]; simp) q.symm)
        exact (hr.blk c M e).world (hfr _ (hr.dom c M e).2.2 hne)
theorem step_none {α α1 : Al} {w w' : World} {h h0 h1 : H} (hr : HR W0 α w h) (s : Step W0 (fun _ => none) w h0 α1 w' h1) : Step W0 α w h α w' h := by
  have hfr : ∀ k, k < w.heap.size → w'.heap[k]? = w.heap[k]? := fun k hk => s.fr.keep k hk fun b0 L0 e0 => by cases e0
  refine ⟨⟨s.hr.agr, hr.ro, hr.full, fun c M e => ?_, fun c M e => ?_, hr.dis⟩, .refl _ _ _, ⟨s.fr.size, fun k hk _ => hfr k hk, s.fr.os, s.fr.out⟩, .refl _, fun _ _ _ => rfl⟩
  · obtain ⟨q1, q2, q3⟩ := hr.dom c M e
    exact ⟨q1, q2, Nat.lt_of_lt_of_le q3 s.fr.size⟩
  · exact (hr.blk c M e).world (hfr _ (hr.dom c M e).2.2)
theorem same_lf {z : R} {b : Bool} {lf : Nat × A × H} (h : R.lf (@Bool.rec (fun _ => R) z z b) = some lf) : z.lf = some lf := by
  cases b <;> exact h
theorem fText_cn {p : KnownT} {l : List KnownT} {k : K} {v s e : A} {h : H} : fText (p :: l) F k (.cn v (.cn s e)) h = @Bool.rec (fun _ => R) (fText l F k (.cn v (.cn s e)) h) (@A.rec (fun _ => R) (fun _ => fText l F k (.cn v (.cn s e)) h) (fun _ => fText l F k (.cn v (.cn s e)) h) (fun _ => fText l F k (.cn v (.cn s e)) h) (fun _ _ => fText l F k (.cn v (.cn s e)) h) (fun g b o n => @Bool.rec (fun _ => R) (fText l F k (.cn v (.cn s e)) h) (@Bool.rec (fun _ => R) (fText l F k (.cn v (.cn s e)) h) (@Bool.rec (fun _ => R) (fText l F k (.cn v (.cn s e)) h) (@Bool.rec (fun _ => R) (@Bool.rec (fun _ => R) (fText l F k (.cn v (.cn s e)) h) (@Bool.rec (fun _ => R) (fText l F k (.cn v (.cn s e)) h) (ret1 p.x h) (eqBB (blkB h b) (.cs p.m 0 p.t))) (Nat.beq o 0)) (ret1 p.x h) (Nat.beq g 3)) (Nat.beq n p.n)) (Nat.beq g p.g)) (eqA e .nl)) (fun _ _ _ => fText l F k (.cn v (.cn s e)) h) (fText l F k (.cn v (.cn s e)) h) (fun _ _ _ _ => fText l F k (.cn v (.cn s e)) h) s) (eqA v p.v) := rfl
theorem fText_ans {l : List KnownT} (hL : ∀ p ∈ l, TextOK P W0 f p) (hF : FnAns P W0 f (F k)) : FnAns P W0 f (fText l F k) := by
  induction l with
  | nil => exact hF
  | cons p l ih =>
    intro a h x r h' hl
    have ih := ih (fun q hq => hL q (.tail _ hq)) a h x r h'
    cases a with
    | cn v q =>
      cases q with
      | cn s e =>
        rw [fText_cn] at hl
        rcases rec_lf hl with ⟨hv, hl⟩ | ⟨_, hl⟩
        · cases s with
          | ref g b o n =>
            rcases rec_lf hl with ⟨he, hl⟩ | ⟨_, hl⟩
            · rcases rec_lf hl with ⟨hg, hl⟩ | ⟨_, hl⟩
              · rcases rec_lf hl with ⟨hn, hl⟩ | ⟨_, hl⟩
                · have hv := eqA_eq _ _ hv
                  have he := eqA_eq _ _ he
                  have hg : g = p.g := beq hg
                  have hn : n = p.n := beq hn
                  subst hv; subst he
                  have T := hL p (.head _)
                  rcases rec_lf hl with ⟨h3, hl⟩ | ⟨h3, hl⟩
                  · have h3 : g = 3 := beq h3
                    cases hl
                    refine ⟨T.fn, fun α w args hr ha => ?_⟩
                    match args, ha with
                    | [u, sv], .cons a1 (.cons a2 .nil) =>
                      rw [h3] at a2
                      have e1 := rep_nsl a2
                      subst e1
                      have hr1 : HR W0 (fun _ => none) w p.h := ⟨hr.agr, Nat.le_refl _, p.full, (fun _ _ e => by cases e), (fun _ _ e => by cases e), (fun _ _ _ _ e => by cases e)⟩
                      refine (T.ans _ w _ hr1 (.cons (flat_rep T.fv a1) (.cons (by rw [← hg, h3]; exact .ref .nsl) .nil))).mono ?_
                      rintro e w' ⟨u, α', h4, rfl, s1, s2⟩
                      exact ⟨u, α, rfl, step_none hr s1, flat_rep T.fx s2⟩
                  · rcases rec_lf hl with ⟨h4, hl⟩ | ⟨_, hl⟩
                    · rcases rec_lf hl with ⟨h5, hl⟩ | ⟨_, hl⟩
                      · have h4 : o = 0 := beq h4
                        cases hl
                        have h5 := eqBB_eq _ _ h5
                        have h6 : tget .no h.tr b = .cs p.m 0 p.t := by cases h; exact h5
                        refine ⟨T.fn, fun α w args hr ha => ?_⟩
                        match args, ha with
                        | [u, sv], .cons a1 (.cons a2 .nil) =>
                          rw [h4] at a2
                          have hg11 : 11 ≤ g := by
                            rcases T.g with q | q
                            · rw [← hg] at q
                              rw [q] at h3; cases h3
                            · omega
                          cases a2 with
                          | ref a2 =>
                            cases a2 with
                            | @sl _ _ _ _ cp ad L hb h1 h2 h3 h4 h5 h6 =>
                              have hB := hr.blk b L hb
                              rw [‹tget .no h.tr b = .cs p.m 0 p.t›] at hB
                              obtain ⟨c1, c2, c3, c4, cs, el, c5, c6, c7⟩ := hB
                              have hr1 : HR W0 (fun i => if i = 0 then some L else none) w p.h := by
                                have at0 : ∀ {c M}, (if c = 0 then some L else none) = some M → c = 0 ∧ M = L := fun {c M} e => by
                                  split at e
                                  · cases e; exact ⟨‹_›, rfl⟩
                                  · cases e
                                refine ⟨hr.agr, Nat.le_refl _, p.full, fun c M e => ?_, fun c M e => ?_, fun c d M N e1 e2 _ _ _ => ?_⟩
                                · obtain ⟨rfl, rfl⟩ := at0 e
                                  exact ⟨by show 0 < 1; decide, .inr (by show 0 < 1; decide), (hr.dom b _ hb).2.2⟩
                                · obtain ⟨rfl, rfl⟩ := at0 e
                                  exact ⟨c1, c2, c3, c4, cs, el, c5, c6, fun i i1 i2 => let ⟨v, v1, v2, v3⟩ := c7 i i1 i2; ⟨v, v1, v2, flat_rep (T.ft i i2) v3⟩⟩
                                · obtain ⟨rfl, _⟩ := at0 e1
                                  obtain ⟨rfl, _⟩ := at0 e2
                                  rfl
                              refine (T.ans _ w _ hr1 (.cons (flat_rep T.fv a1) (.cons ?_ .nil))).mono ?_
                              · rw [← hg, ← hn]
                                exact .ref (.sl (L := L) (by rfl) h1 h2 h3 h4 h5 h6)
                              · rintro e w' ⟨u, α', h7, rfl, s1, s2⟩
                                exact ⟨u, α, rfl, step_iso hr hb ‹_› T.ft s1, flat_rep T.fx s2⟩
                            | _ => omega
                      · exact ih hl
                    · exact ih hl
                · exact ih hl
              · exact ih hl
            · exact ih hl
          | _ => exact ih hl
        · exact ih hl
      | _ => exact ih (same_lf (b := eqA v p.v) (z := fText l F k (.cn v _) h) hl)
    | _ => exact ih hl
end
end Go.X1

set_option maxRecDepth 100000
namespace Go.X1
variable [Nu]
/-- What is told of numbers' lengths. -/
def DtOK (dt : List (Nat × Nat)) : Prop := ∀ i d, (i, d) ∈ dt → (itB (Nu.val i)).length = d ∧ Nu.val i ≤ 999
theorem dlook_mem {dt : List (Nat × Nat)} {i : Nat} (h : dlook dt i ≠ 0) : (i, dlook dt i) ∈ dt := by
  induction dt with
  | nil => exact absurd rfl h
  | cons p l ih =>
    have e : dlook (p :: l) i = @Bool.rec (fun _ => Nat) (dlook l i) p.2 (Nat.beq p.1 i) := rfl
    rw [e] at h ⊢
    cases hq : Nat.beq p.1 i
    · rw [hq] at h; exact .tail _ (ih h)
    · have : p.1 = i := beq hq
      rw [← this]; exact .head _
theorem digL_split {i : Nat} {K : A} : ∀ (d j : Nat) (s : List UInt8), (itB (Nu.val i)).length = d + j → Pcs s (lapp (digL i d j) K) → ∃ s2, s = (itB (Nu.val i)).drop j ++ s2 ∧ Pcs s2 K
  | 0, j, s, h, hp => ⟨s, by rw [List.drop_eq_nil_of_le (by omega)]; rfl, hp⟩
  | d + 1, j, s, h, hp => by
    have hp : Pcs s (.cn (.ref 8 3 j i) (lapp (digL i d (j + 1)) K)) := hp
    generalize hq : A.cn (.ref 8 3 j i) (lapp (digL i d (j + 1)) K) = q at hp
    cases hp with
    | @dg b r cs j' i' hv h0 hp =>
      cases hq
      obtain ⟨s2, rfl, h2⟩ := digL_split d (j + 1) _ (by omega) hp
      have hj : j < (itB (Nu.val i)).length := by omega
      rw [List.getElem?_eq_getElem hj] at h0
      cases h0
      exact ⟨s2, by rw [List.drop_eq_getElem_cons hj]; rfl, h2⟩
    | _ => cases hq
theorem exp_pcs {dt : List (Nat × Nat)} (hdt : DtOK dt) : ∀ {l : A} {s : List UInt8}, Pcs s (expP dt l) → Pcs s l := by
  intro l
  induction l with
  | nl => intro s h; exact h
  | cn x r _ ih =>
    intro s h
    have cn_case : ∀ {z : A}, Pcs s (.cn z (expP dt r)) → Pcs s (.cn z r) := fun {z} h => by
      generalize hq : A.cn z (expP dt r) = q at h
      cases h with
      | nil => cases hq
      | byt h => cases hq; exact .byt (ih h)
      | dg hv h0 h => cases hq; exact .dg hv h0 (ih h)
      | it hv h => cases hq; exact .it hv (ih h)
    cases x with
    | ref g b o i =>
      have h : Pcs s (@Bool.rec (fun _ => A) (.cn (.ref g b o i) (expP dt r)) (@Bool.rec (fun _ => A) (.cn (.ref g b o i) (expP dt r)) (@Bool.rec (fun _ => A) (.int 0) (@Bool.rec (fun _ => A) (lapp (digL i (dlook dt i) 0) (expP dt r)) (.int 0) (Nat.beq (dlook dt i) 0)) (Nat.beq o 0)) (Nat.beq b 4)) (Nat.beq g 8)) := h
      cases h1 : Nat.beq g 8 <;> rw [h1] at h
      · exact cn_case h
      cases h2 : Nat.beq b 4 <;> rw [h2] at h
      · exact cn_case h
      cases h3 : Nat.beq o 0 <;> rw [h3] at h
      · cases h
      cases h4 : Nat.beq (dlook dt i) 0 <;> rw [h4] at h
      · rw [show g = 8 from beq h1, show b = 4 from beq h2, show o = 0 from beq h3]
        have hm := dlook_mem (dt := dt) (i := i) (fun q => by rw [q] at h4; cases h4)
        obtain ⟨q1, q2⟩ := hdt _ _ hm
        obtain ⟨s2, rfl, h5⟩ := digL_split _ 0 s (by omega) h
        rw [List.drop_zero]
        exact .it q2 (ih h5)
      · cases h
    | _ => exact cn_case h
  | _ => intro s h; cases h
section
variable {P : Program} {W0 : World} {k : K} {f : Nat}
/-- One way of lengths: what the reckoning by bytes tells. -/
theorem text_ans {p : KnownT} {dt : List (Nat × Nat)} (hdt : DtOK dt) (hk : CallOK P W0 k) {tok : A} (hx : p.x = .nd 2 tok) (h : isRes (.nd 2 (expP dt tok)) (k f p.a p.h) = true) :
    FnOK P f ∧ ∀ (α : Al) (w : World) (args : List Value), HR W0 α w p.h → RepL α args p.a → Calls P f ⟨args⟩ w (fun e w' => ∃ u α' h', e = .returned u ∧ Step W0 α w p.h α' w' h' ∧ Rep α' u p.x) := by
  obtain ⟨t, h', hl⟩ := isRes_lf h (by simp)
  obtain ⟨hf, hc⟩ := hk f _ _ _ _ _ hl
  refine ⟨hf, fun α w args hr ha => (hc α w args hr ha).mono ?_⟩
  rintro e w' ⟨u, α', rfl, s1, s2⟩
  obtain ⟨s, rfl, hs⟩ := rep_pst s2
  exact ⟨_, α', h', rfl, s1, by rw [hx]; exact .pst (exp_pcs hdt hs)⟩
theorem ft_of {p : KnownT} (h : (List.range p.m).all (fun i => flat (tget junk p.t i)) = true) : ∀ i, i < p.m → flat (tget junk p.t i) = true := fun i hi => List.all_eq_true.1 h i (List.mem_range.2 hi)
/-! The input -/
/-- A slice of these bytes. -/
inductive Inp (W : World) : Value → List UInt8 → Prop
  | nil : Inp W (.slice none 0 0) []
  | zero {a : Addr} : Inp W (.slice (some a) 0 0) []
  | row {b o c : Nat} {bs : List UInt8} {cs : Array Value} {el : TypeId} {fz : Nat × Nat} (hn : bs.length ≤ c) (hb : W.heap[b]? = some (.cells cs el fz)) (hc : o + c ≤ cs.size) (hv : ∀ (i : Nat) (x : UInt8), bs[i]? = some x → cs[o + i]? = some (.int .u8 x.toNat)) : Inp W (.slice (some ⟨b, o, none⟩) bs.length c) bs
/-- What 'at' answers. -/
def atV (bs : List UInt8) (j : Nat) : Nat := if h : j < bs.length then bs[j].toNat else (j * 37 + bs.length * 11) % 256
noncomputable def inH (n : Nat) (l : A) : H := .mk (.nd (.cs n 0 (tsets l .lf 0)) .lf .lf) 1 1
theorem in_hr {w : World} {bs : List UInt8} {b o c : Nat} {cs : Array Value} {el : TypeId} {fz : Nat × Nat} (hA : Agree W0 w) (hn : bs.length ≤ c) (hb : W0.heap[b]? = some (.cells cs el fz)) (hc : o + c ≤ cs.size) (hv : ∀ (i : Nat) (x : UInt8), bs[i]? = some x → cs[o + i]? = some (.int .u8 x.toNat)) :
    HR W0 (fun i => if i = 0 then some ⟨b, o, 0, 1, c, fz⟩ else none) w (inH bs.length (bytesL bs.length (encB bs))) := by
  have hlt : b < W0.heap.size := (Array.getElem?_eq_some_iff.1 hb).1
  have hw : w.heap[b]? = some (.cells cs el fz) := by rw [hA.heap b hlt]; exact hb
  have at0 : ∀ {c' : Nat} {M}, (if c' = 0 then some (⟨b, o, 0, 1, c, fz⟩ : Loc) else none) = some M → c' = 0 ∧ M = ⟨b, o, 0, 1, c, fz⟩ := fun {c'} {M} e => by
    split at e
    · cases e; exact ⟨‹_›, rfl⟩
    · cases e
  have hrep := fun (α : Al) => repL_bytes (α := α) bs
  have hl : llen (bytesL bs.length (encB bs)) = bs.length := by
    have := (hrep (fun _ => none)).len
    rw [List.length_map] at this
    exact this.symm
  obtain ⟨f1, f2⟩ := full_sets (bytesL bs.length (encB bs)) .lf 0 0 (hrep (fun _ => none)).isL rfl (Nat.le_refl _)
  rw [hl, Nat.zero_add, Nat.max_eq_right (Nat.zero_le _)] at f1
  refine ⟨hA, Nat.le_refl _, ⟨by show 0 < 1; decide, (rfl : 1 / 2 = 0), (rfl : (1 - 1) / 2 = 0)⟩, fun c' M e => ?_, fun c' M e => ?_, fun c' d M N e1 e2 _ _ _ => ?_⟩
  · obtain ⟨rfl, rfl⟩ := at0 e
    exact ⟨by show 0 < 1; decide, .inr (by show 0 < 1; decide), Nat.lt_of_lt_of_le hlt hA.size⟩
  · obtain ⟨rfl, rfl⟩ := at0 e
    refine ⟨rfl, Nat.zero_le _, by show _ ≤ 0 + c; omega, ⟨_, f1, Nat.le_refl _⟩, cs, el, hw, hc, fun i _ i2 => ?_⟩
    obtain ⟨x, hx⟩ : ∃ x, bs[i]? = some x := ⟨bs[i], List.getElem?_eq_getElem i2⟩
    refine ⟨.int .u8 x.toNat, by rw [Nat.sub_zero]; exact hv i x hx, rfl, ?_⟩
    rw [f2, if_pos ⟨Nat.zero_le _, by rw [hl]; omega⟩, Nat.sub_zero]
    exact (hrep _).get i _ (by rw [List.getElem?_map, hx]; rfl)
  · obtain ⟨rfl, _⟩ := at0 e1
    obtain ⟨rfl, _⟩ := at0 e2
    rfl
theorem nth_bytes : ∀ (bs : List UInt8) (j : Nat) (x : UInt8), bs[j]? = some x → nth (bytesL bs.length (encB bs)) j = .byt x.toNat
  | [], j, x, h => by simp at h
  | b :: r, j, x, h => by
    have hb : b.toNat < 256 := b.toNat_lt
    have e1 : encB (b :: r) % 256 = b.toNat := by show (b.toNat + encB r * 256) % 256 = _; omega
    have e2 : encB (b :: r) / 256 = encB r := by show (b.toNat + encB r * 256) / 256 = _; omega
    rw [List.length_cons, bytesL_S, e1, e2]
    cases j with
    | zero => rw [nth_cn0]; simp at h; rw [h]
    | succ j => rw [nth_cnS]; exact nth_bytes r j x (by simpa using h)
/-- From a call with the input's own block to one that leaves all as it is. -/
theorem in_back {α' : Al} {w w' : World} {h h' : H} {L : Loc} (hA : Agree W0 w) (hL : L.blk < W0.heap.size) (s : Step W0 (fun i => if i = 0 then some L else none) w h α' w' h') : Agree w w' := by
  refine ⟨s.fr.size, fun k hk => ?_, s.fr.os, s.fr.out⟩
  by_cases hq : L.blk = k
  · subst hq
    rw [s.hr.agr.heap _ hL, hA.heap _ hL]
  · exact s.fr.keep k hk fun b0 L0 e0 => by
      have e0 : (if b0 = 0 then some L else none) = some L0 := e0
      split at e0
      · cases e0; exact hq
      · cases e0
theorem fAt_ans {l : List (Nat × A)} (hf : FnOK P f) (hA : ∀ j x, (j, x) ∈ l → ∃ m : Nat, (∀ α : Al, Rep α (.int .i64 m) x) ∧ ∀ w : World, Agree W0 w → Calls P f #[Nu.inp, .int .i64 j] w (fun e w' => e = .returned (.int .i64 m) ∧ Agree w w')) : FnAns P W0 f (fAt l k) := fun a h v r h' hl => by
  obtain ⟨x, t, rfl, ha⟩ := oCn_lf hl
  obtain ⟨y, t2, rfl, hb⟩ := oCn_lf ha
  obtain ⟨rfl, hc⟩ := oEnd_lf hb
  obtain ⟨g, b, o, n, rfl, hd⟩ := oRef_lf hc
  obtain ⟨g1, he⟩ := oCk_lf hd
  obtain ⟨g2, hg⟩ := oCk_lf he
  obtain ⟨j, rfl, hi⟩ := oInt_lf hg
  clear ha hb hc hd he hg hl
  have hl : R.lf (@List.rec (Nat × A) (fun _ => R) .bad (fun p _ ih => @Bool.rec (fun _ => R) ih (ret1 p.2 h) (Nat.beq (Nat.add 9223372036854775808 p.1) j)) l) = some (1, .cn v r, h') := hi
  clear hi
  have g1 : g = 8 := beq g1
  have g2 : b = 7 := beq g2
  have key : ∃ i x, (i, x) ∈ l ∧ j = 9223372036854775808 + i ∧ v = x ∧ h' = h := by
    clear hA
    revert hl
    induction l with
    | nil => intro hl; exact bad_lf hl
    | cons p l ih =>
      intro hl
      rcases rec_lf hl with ⟨q, hq⟩ | ⟨_, hq⟩
      · cases hq
        exact ⟨p.1, p.2, .head _, (beq q).symm, rfl, rfl⟩
      · obtain ⟨i, x, q1, q2⟩ := ih hq
        exact ⟨i, x, .tail _ q1, q2⟩
  obtain ⟨i, x, q1, q2, rfl, rfl⟩ := key
  obtain ⟨m, m1, m2⟩ := hA i v q1
  refine ⟨hf, fun α w args hr ha => ?_⟩
  match args, ha with
  | [u1, u2], .cons a1 (.cons a2 .nil) =>
    rw [g1, g2] at a1
    obtain ⟨z, z1, z2⟩ := rep_int a2
    have hz : z = (i : Int) := by omega
    subst hz
    have e1 : u1 = Nu.inp := by
      cases a1 with | ref a1 =>
      generalize hg : 8 = g at a1
      generalize hb : 7 = b at a1
      cases a1 with
      | inp h1 h2 => exact h1.symm
      | sl _ hg' => omega
      | _ => omega
    subst e1; subst z1
    refine (m2 w hr.agr).mono ?_
    rintro e w' ⟨rfl, A⟩
    exact ⟨_, α, rfl, step_agree hr A, m1 α⟩
theorem Inp.slice {v : Value} {bs : List UInt8} (h : Inp W0 v bs) : ∃ ad c, v = .slice ad bs.length c := by
  cases h with
  | nil => exact ⟨_, _, rfl⟩
  | zero => exact ⟨_, _, rfl⟩
  | row => exact ⟨_, _, rfl⟩
/-- A law with the input as its one argument. -/
theorem law_in {u : Nat} {bs : List UInt8} (hk : CallOK P W0 k) (hi : Inp W0 Nu.inp bs) (hu : lenK u bs.length) (h : isT (k f (.cn (.ref 8 7 u 0) .nl) (.mk .lf 0 0)) = true) : FnOK P f ∧ Calls P f #[Nu.inp] W0 (fun e w' => e = .returned (.bool true) ∧ Agree W0 w') := by
  obtain ⟨t, h', hl⟩ := isT_lf h
  obtain ⟨h1, h2⟩ := hk f _ _ _ _ _ hl
  obtain ⟨ad, c, e⟩ := hi.slice
  refine ⟨h1, (h2 _ W0 [Nu.inp] (hr_empty W0) (.cons ?_ .nil)).mono ?_⟩
  · have : Rep (fun _ => none) (.slice ad bs.length c) (.ref 8 7 u 0) := .ref (.inp e hu)
    rw [← e] at this
    exact this
  rintro e w' ⟨u, α', rfl, s, r⟩
  rw [rep_bool r]
  exact ⟨rfl, s.hr.agr⟩
end
theorem dt_nil : DtOK [] := fun _ _ h => by cases h
theorem dt_cons {i d : Nat} {dt : List (Nat × Nat)} (h1 : (itB (Nu.val i)).length = d) (h2 : Nu.val i ≤ 999) (h : DtOK dt) : DtOK ((i, d) :: dt) := fun j e hm => by
  cases hm with
  | head => exact ⟨h1, h2⟩
  | tail _ hm => exact h j e hm
theorem itB_two {n : Nat} (h : n ≤ 99) : (itB n).length = 1 ∨ (itB n).length = 2 := by
  unfold itB
  split
  · exact .inl rfl
  · rw [if_pos (by omega)]; exact .inr rfl
theorem itB_three (n : Nat) : (itB n).length = 1 ∨ (itB n).length = 2 ∨ (itB n).length = 3 := by
  unfold itB
  split
  · exact .inl rfl
  · split
    · exact .inr (.inl rfl)
    · exact .inr (.inr rfl)
end Go.X1

set_option maxRecDepth 100000
namespace Go.X1
def w_cell (w : World) (a : Addr) (v : Value) : Prop := w.cell? a = some v
theorem cell_of_block {w w' : World} {b : Nat} (h : w'.heap[b]? = w.heap[b]?) (o : Nat) : w'.cell? ⟨b, o, none⟩ = w.cell? ⟨b, o, none⟩ := by
  unfold World.cell?; simp [h]

/-- A variable's data are of a type that can be read again. -/
def varOK (P : Program) (n : String) : Bool := match (P.globalNamed n).bind fun g => P.globals[g]? with
  | some G => P.readableRec G.type && decide (G.type < P.types.size)
  | none => false
open Go.ChangeShapes in
theorem post_true {H : Type} {enc : TypeId × Value → H} {P : Program} {f : Func} {s : ChangeSpec} {apart fresh handsOn : Bool} {W W' : World} {args : Array Value} {v : Value} {ds gs : List (DataW H)} {before : List MemPlace} {tb : TypeId}
    (hW : DataW.Whole enc P f.params.toList s.vars apart W args.toList ds gs before) (hvars : s.vars.all (varOK P) = true)
    (hl : laidOutB P = true) (hr : f.params.toList.all (fun t => P.readableRec t && decide (t < P.types.size)) = true)
    (hrt : f.resultTypes = #[tb]) (htb : P.underlying tb = some .bool)
    (hs : s.fn H (ds ++ gs) = { results := [.lit (.bool true)], args := ds, vars := gs }) (A : Agree W W') (hv : v = .bool true) :
    s.post enc P f apart fresh handsOn false W args v W' := by
  subst hv
  obtain ⟨p, q, hA, hV, rfl, hfz, hnd⟩ := hW
  have hres : ∀ (b : Nat) (sp : Nat → Bool) (hd : Bool), DataW.TrodAll enc P W' b sp hd f.resultTypes.toList ((Value.bool true).resultList f.resultTypes.size) [.lit (.bool true)] [] := fun b sp hd => by
    rw [hrt]
    exact trodAll_mk1 (RowKit.shut_bool htb true)
  have stays : ∀ {t : TypeId} {v : Value} {d : DataW H} {a : List MemPlace}, (P.readableRec t && decide (t < P.types.size)) = true → DataW.Trod enc P W 0 (fun _ => true) true t v d a → DataW.Trod enc P W' 0 (fun b => decide (b < W.heap.size)) true t v d a := fun {t v d a} hr h1 => by
    simp only [Bool.and_eq_true, decide_eq_true_eq] at hr
    have hlt : ∀ x ∈ a, x.block < W.heap.size := fun x hx => by
      obtain ⟨n, hn⟩ := h1
      exact DataW.trod_lt _ _ _ _ hn x hx
    refine WideElems.Trod_stays hl hr.1 hr.2 h1 (fun x hx => ?_) (fun x hx => by simpa using hlt x hx)
    have := A.heap x.block (hlt x hx)
    cases x with
    | cell b o => exact cell_of_block (by simpa [MemPlace.block] using this) o
    | map b => simpa [MemPlace.block, World.sameAt] using this
  have hargs : ∀ (ts : List TypeId) (vs : List Value) (ds : List (DataW H)) (p : List MemPlace), ts.all (fun t => P.readableRec t && decide (t < P.types.size)) = true → DataW.TrodAll enc P W 0 (fun _ => true) true ts vs ds p →
      DataW.TrodAll enc P W' 0 (fun b => decide (b < W.heap.size)) true ts vs ds p := by
    intro ts
    induction ts with
    | nil =>
      intro vs ds p _ h
      obtain ⟨rfl, rfl, rfl⟩ := trodAll_nil h
      exact rfl
    | cons t ts ih =>
      intro vs ds p hr h
      obtain ⟨v, vs1, d, ds1, a, b, rfl, rfl, rfl, h1, h2⟩ := trodAll_cons h
      rw [List.all_cons, Bool.and_eq_true] at hr
      exact ⟨a, b, stays hr.1 h1, ih vs1 ds1 b hr.2 h2, rfl⟩
  have hvs : ∀ (ns : List String) (gs : List (DataW H)) (q : List MemPlace), ns.all (varOK P) = true → DataW.TrodVars enc P W (fun _ => true) ns gs q → DataW.TrodVars enc P W' (fun b => decide (b < W.heap.size)) ns gs q := by
    intro ns
    induction ns with
    | nil =>
      intro gs q _ h
      obtain ⟨rfl, rfl⟩ := trodVars_none h
      exact rfl
    | cons n ns ih =>
      intro gs q hr h
      cases gs with
      | nil => simp [DataW.TrodVars] at h
      | cons d gs =>
        obtain ⟨g, t, cs, fuel, p1, q1, h1, h2, h3, h4, h5, h6⟩ := h
        rw [List.all_cons, Bool.and_eq_true] at hr
        have hok : (P.readableRec t && decide (t < P.types.size)) = true := by
          have := hr.1
          unfold varOK at this
          rw [h1, Option.bind_some] at this
          cases hG : P.globals[g]? with
          | none => rw [hG] at h2; cases h2
          | some G =>
            rw [hG] at this h2
            cases h2
            exact this
        obtain ⟨fuel', h4'⟩ := stays (v := .agg cs) hok ⟨fuel, h4⟩
        have hlt : g < W.heap.size := by
          rcases Nat.lt_or_ge g W.heap.size with h | h
          · exact h
          · simp [World.var?, h1, Array.getElem?_eq_none h] at h3
        have h3' : W'.var? P n = some cs := by
          rw [← h3]
          simp only [World.var?, h1, Option.bind_some, A.heap g hlt]
        exact ⟨g, t, cs, fuel', p1, q1, h1, h2, h3', h4', ih gs q1 hr.2 h5, h6⟩
  refine ⟨ds, gs, p ++ q, [], p, q, ⟨p, q, hA, hV, rfl, hfz, hnd⟩, ?_, ?_, ?_, ?_, fun h => by cases h⟩
  · rw [hs]; exact hres _ _ _
  · rw [hs]; exact hargs _ _ _ _ hr hA
  · rw [hs]; exact hvs _ _ _ hvars hV
  · refine ⟨A.os, A.out, fun i hi => ?_⟩
    rw [A.heap i hi]
    split
    · rename_i h1 h2
      rw [h1] at h2
      simp only [Option.some.injEq, Obj.cells.injEq] at h2
      obtain ⟨rfl, rfl, rfl⟩ := h2
      exact ⟨rfl, rfl, rfl, fun _ _ => rfl⟩
    · rename_i h1 h2
      rw [h1] at h2
      simp only [Option.some.injEq, Obj.map.injEq] at h2
      exact .inr ⟨h2.1.symm, h2.2.symm⟩
    · rfl
/-! The input, read -/
theorem choose_bytes {p : Nat → UInt8 → Prop} : ∀ n : Nat, (∀ i, i < n → ∃ x, p i x) → ∃ l : List UInt8, l.length = n ∧ ∀ i x, l[i]? = some x → p i x
  | 0, _ => ⟨[], rfl, fun i x h => by simp at h⟩
  | n + 1, h => by
    obtain ⟨l, h1, h2⟩ := choose_bytes n (fun i hi => h i (by omega))
    obtain ⟨x, hx⟩ := h n (by omega)
    refine ⟨l ++ [x], by simp [h1], fun i y hy => ?_⟩
    rcases Nat.lt_or_ge i n with hi | hi
    · rw [List.getElem?_append_left (by omega)] at hy
      exact h2 i y hy
    · rw [List.getElem?_append_right (by omega)] at hy
      have hlt := (List.getElem?_eq_some_iff.1 hy).1
      simp at hlt
      have : i = n := by omega
      subst this
      rw [h1, Nat.sub_self] at hy
      simp at hy
      subst hy
      exact hx
theorem cell_row {w : World} {a : Addr} {v : Value} (h : w.cell? a = some v) : a = ⟨a.block, a.off, none⟩ ∧ ∃ cs el fz, w.heap[a.block]? = some (.cells cs el fz) ∧ cs[a.off]? = some v := by
  obtain ⟨b, o, s⟩ := a
  unfold World.cell? at h
  split at h
  · rename_i cs el fz hb
    cases s with
    | none => exact ⟨rfl, cs, el, fz, hb, by simpa using h⟩
    | some q => simp at h
  · simp at h
theorem cells_cell {P : Program} {w : World} {base : Nat} {t : TypeId} {v u : Value} (h : Value.okWide P w .any base t v) (ht : ∀ fs, P.underlying t ≠ some (.struct fs)) (ht' : ∀ n e, P.underlying t ≠ some (.array n e)) (hc : v.cells.toList = [u]) : v = u := by
  cases v <;> simp_all [Value.cells]
  unfold Value.okWide at h
  split at h
  · rename_i fs hu; exact (ht fs hu).elim
  · rename_i n e hu; exact (ht' n e hu).elim
  · unfold Cell.okWide at h
    split at h <;> simp_all [Cell.ok]
theorem cells_one {w : World} {a : Addr} {vs : List Value} (h : w.cells? 0 a 1 = some vs) : ∃ v, vs = [v] ∧ w.cell? a = some v := by
  unfold World.cells? at h
  rw [if_pos (Nat.zero_le _)] at h
  simp [List.range_succ] at h
  cases hc : w.cell? a with
  | none => simp [Addr.add, hc] at h
  | some v => simp [Addr.add, hc] at h; exact ⟨v, h.symm, rfl⟩
theorem inp_of {P : Program} {H : Type} {enc : TypeId × Value → H} {W : World} {base : Nat} {t e : TypeId} {v : Value} {d : DataW H} {ps : List MemPlace} (ht : P.underlying t = some (.slice e)) (he : P.underlying e = some (.int .u8)) (hs : P.cellsOf e = 1)
    (hv : Value.okWide P W .any base t v) (hd : DataW.Trod enc P W 0 (fun _ => true) true t v d ps) : ∃ bs, Inp W v bs := by
  obtain ⟨fuel, hd⟩ := hd
  have hcell : ∀ u, v.cells.toList = [u] → v = u := fun u hu => cells_cell hv (fun fs q => by rw [ht] at q; cases q) (fun n e q => by rw [ht] at q; cases q) hu
  rcases DataW.trod_slice ht hd with ⟨h1, _⟩ | ⟨a, len, cap, elems, rest, n, hfu, h1, _, _, hlc, hcm, hlen, hel, hsp, _⟩
  · rw [hcell _ h1]
    exact ⟨[], .nil⟩
  · rw [hcell _ h1]
    rw [hs] at hel hsp
    obtain ⟨hr1, hr2⟩ := hsp rfl
    have all : ∀ i, i < cap → ∃ u, w_cell W (a.add (i * 1)) u ∧ (i < len → ∃ x : UInt8, u = .int .u8 x.toNat) := fun i hi => by
      rcases Nat.lt_or_ge i len with h | h
      · have q1 := hel i h
        rw [List.getElem?_eq_getElem (show i < elems.length by omega), Option.bind_eq_some_iff] at q1
        obtain ⟨vs, q2, q3⟩ := q1
        obtain ⟨u, rfl, q4⟩ := cells_one q2
        obtain ⟨z, q5, _, q6⟩ := DataW.trod_int he q3
        simp only [List.cons.injEq, and_true] at q5
        refine ⟨u, q4, fun _ => ?_⟩
        simp only [Lit.wf, Bool.and_eq_true, decide_eq_true_eq] at q6
        have q6 : (0 : Int) ≤ z ∧ z ≤ 255 := q6
        refine ⟨UInt8.ofNat z.toNat, ?_⟩
        rw [q5, UInt8.toNat_ofNat_of_lt' (by show z.toNat < 256; omega)]
        congr 1; omega
      · have q1 := hr2 (i - len) (by omega)
        rw [List.getElem?_eq_getElem (show i - len < rest.length by omega), Option.bind_eq_some_iff, show len + (i - len) = i by omega] at q1
        obtain ⟨vs, q2, q3⟩ := q1
        obtain ⟨u, rfl, q4⟩ := cells_one q2
        exact ⟨u, q4, fun h' => by omega⟩
    rcases Nat.eq_zero_or_pos cap with h0 | h0
    · have : len = 0 := by omega
      subst this; subst h0
      exact ⟨[], .zero⟩
    · obtain ⟨u0, c0, _⟩ := all 0 h0
      have hz : a.add (0 * 1) = a := by simp [Addr.add]
      rw [hz] at c0
      obtain ⟨ha, cs, el, fz, hb, hc0⟩ := cell_row c0
      have hadd : ∀ i, a.add (i * 1) = ⟨a.block, a.off + i, none⟩ := fun i => by
        have q : a.add (i * 1) = (⟨a.block, a.off, none⟩ : Addr).add i := by rw [Nat.mul_one, ← ha]
        rw [q]
        exact @addr_add ⟨0, 0, 0, .nilIface⟩ _ _ _
      have cell : ∀ i, i < cap → ∃ u, cs[a.off + i]? = some u ∧ (i < len → ∃ x : UInt8, u = .int .u8 x.toNat) := fun i hi => by
        obtain ⟨u, q1, q2⟩ := all i hi
        rw [hadd] at q1
        obtain ⟨_, cs', el', fz', q3, q4⟩ := cell_row q1
        have q3 : W.heap[a.block]? = _ := q3
        rw [hb] at q3; cases q3
        exact ⟨u, q4, q2⟩
      obtain ⟨bs, l1, l2⟩ := choose_bytes (p := fun i x => cs[a.off + i]? = some (.int .u8 x.toNat)) len (fun i hi => by
        obtain ⟨u, q1, q2⟩ := cell i (by omega)
        obtain ⟨x, rfl⟩ := q2 hi
        exact ⟨x, q1⟩)
      refine ⟨bs, ?_⟩
      rw [ha, ← l1]
      refine .row (by omega) hb ?_ l2
      obtain ⟨u, q1, _⟩ := cell (cap - 1) (by omega)
      have := (Array.getElem?_eq_some_iff.1 q1).1
      omega
open Go.ChangeAt in
theorem row_of_law {H : Type} {enc : TypeId × Value → H} {C : Checked} {os : Os} {f : FuncId} {fn : Func} {s : ChangeSpec} {X : World → Prop} (hX : ∀ w w' : World, w.heap = w'.heap → X w → X w')
 (own : ownKnob C.prog.godebug = none) (started : os.Started) (noInit : C.prog.inits.idxOf? f = none) (hfn : C.prog.funcs[f]? = some fn)
 (witness : ∃ (w : World) (tape : Tape) (i : Input), w.os = os ∧ (w.forCall tape i).Shaped C.prog ∧ i.vars = [] ∧ Input.okWide C.prog (w.forCall tape i) .any w.heap.size f i ∧
  ((s.pre enc C.prog fn [] false (w.forCall tape i).memory i.args ∧ X (w.forCall tape i).memory) ∧ sizedMet enc C.prog fn (OpenSpec.ofChange s) false (w.forCall tape i).memory i.args) ∧ Assume.holds {} C.prog (lone (Frame.enter C.prog f i.args .normal) [] (w.forCall tape i)))
 (law : ∀ (W : World) (base : Nat) (args : Array Value) (ds gs : List (DataW H)) (before : List MemPlace),
  (∀ (j : Nat) t v, fn.params[j]? = some t → args[j]? = some v → Value.okWide C.prog W .any base t v) → DataW.Whole enc C.prog fn.params.toList s.vars false W args.toList ds gs before → X W → W.ShapedOpen C.prog →
  Calls C.prog f args W fun e W' => ∃ v, e = .returned v ∧ s.post enc C.prog fn false true false false W args v W') :
 ReturnsInHanded {} C os f .any (fun w args => (s.pre enc C.prog fn [] false w args ∧ X w) ∧ sizedMet enc C.prog fn (OpenSpec.ofChange s) false w args) (s.post enc C.prog fn false true false false) :=
 returnsInHanded_of_calls own started noInit witness fun w tape i _ hsh _ hok hpre _ => by
  obtain ⟨_, _, _, fn2, h2, _, _, _, _, hval⟩ := hok
  obtain rfl : fn2 = fn := Option.some.inj (h2.symm.trans hfn)
  obtain ⟨⟨⟨ds, gs, before, hw, _⟩, hx⟩, _⟩ := hpre
  refine (law (w.forCall tape i) w.heap.size i.args ds gs before hval (DataW.Whole.of_heap (w' := w.forCall tape i) (by rfl) hw) (hX _ _ (by rfl) hx) hsh).mono fun e W' ⟨v, he, hp⟩ => ?_
  subst he
  exact ChangeSpec.post_blind hp
end Go.X1
