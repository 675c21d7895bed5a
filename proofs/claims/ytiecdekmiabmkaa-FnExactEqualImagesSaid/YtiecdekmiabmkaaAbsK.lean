/-
  A region that draws its order: one walk in the text's order serves every order, where each operation's operands are written ahead of it by what it waits for; a tail that waits for all ahead of it may do anything.
-/
import Derived.Test.YtiecdekmiabmkaaAbsJ
set_option linter.unusedVariables false
set_option linter.unusedSimpArgs false
namespace Go.Abs
open Go.Region (ready binds)

def deps (ops : List Oper) (i : Nat) : List Nat :=
  match ops[i]? with
  | some o => o.after.toList.filterMap fun e => if binds .any e then some e.on else none
  | none => []
def anc (ops : List Oper) : Nat → Nat → Nat → Bool
  | 0, _, _ => false
  | f + 1, i, j => (deps ops i).any fun k => Nat.beq k j || anc ops f k j
def opSlots (o : Oper) : List Nat := o.op.operands.toList.filterMap fun | .tmp t => some t | _ => none
def gSlots (ops : List Oper) (o : Oper) : List Nat := match o.guard with
  | some (j, _) => (((ops[j]?).bind (·.dst)).map fun d => [d]).getD []
  | none => []
def dstAt (ops : List Oper) (i : Nat) : Option Nat := (ops[i]?).bind (·.dst)
def needs (ops : List Oper) (i : Nat) : List Nat := match ops[i]? with | some o => opSlots o ++ gSlots ops o | none => []

def chkBack (ops : List Oper) (n : Nat) : Bool := (List.range n).all fun i => (deps ops i).all fun k => Nat.blt k i
def chkNeeds (ops : List Oper) (m n : Nat) : Bool :=
  (List.range m).all fun i => (needs ops i).all fun t => (List.range m).all fun j => Nat.beq j i || !(dstAt ops j == some t) || (bif Nat.blt j i then anc ops n i j else anc ops n j i)
def chkDst (ops : List Oper) (m : Nat) : Bool :=
  (List.range m).all fun i => (List.range m).all fun j => Nat.beq i j || !(dstAt ops i == dstAt ops j) || dstAt ops i == none
def chkTail (ops : List Oper) (m n : Nat) : Bool := (List.range n).all fun t => Nat.blt t m || (List.range t).all fun i => anc ops n t i
def chkSel (ops : List Oper) (m : Nat) : Bool := Nat.ble m ops.length
/-- The Bool that a region's text owes: its first m operations in any order, the others behind them one by one. -/
def drawOk (ops : List Oper) (m : Nat) : Bool := chkBack ops ops.length && chkNeeds ops m ops.length && chkDst ops m && chkTail ops m ops.length && chkSel ops m

section
variable {P : Program} {ops : List Oper} {listed : Array Bool}

structure LInv (ops : List Oper) (listed : Array Bool) : Prop where
  size : listed.size = ops.length
  closed : ∀ i k, listed.getD i false = true → k ∈ deps ops i → listed.getD k false = true

theorem ready_deps {i : Nat} (h : i ∈ ready .any ⟨ops⟩ listed) : listed.getD i true = false ∧ i < ops.length ∧ ∀ k ∈ deps ops i, listed.getD k false = true := by
  obtain ⟨h1, o, h2, h3⟩ := mem_ready.1 h
  have h2' : ops[i]? = some o := by simpa using h2
  refine ⟨h1, ?_, fun k hk => ?_⟩
  · rcases Nat.lt_or_ge i ops.length with h | h
    · exact h
    · simp [List.getElem?_eq_none h] at h2'
  · simp only [deps, h2', List.mem_filterMap] at hk
    obtain ⟨e, he, hk⟩ := hk
    split at hk
    · simp at hk; subst hk; exact h3 e (by simpa using he) (by assumption)
    · simp at hk

theorem anc_listed (inv : LInv ops listed) : ∀ (f i j : Nat), (∀ k ∈ deps ops i, listed.getD k false = true) → anc ops f i j = true → listed.getD j false = true
  | 0, _, _, _, h => by simp [anc] at h
  | f + 1, i, j, hd, h => by
    simp only [anc, List.any_eq_true, Bool.or_eq_true] at h
    obtain ⟨k, hk, h⟩ := h
    rcases h with h | h
    · rw [Nat.beq_eq] at h; subst h; exact hd k hk
    · exact anc_listed inv f k j (fun k' hk' => inv.closed k k' (hd k hk) hk') h

theorem LInv.set {i : Nat} (inv : LInv ops listed) (hr : i ∈ ready .any ⟨ops⟩ listed) : LInv ops (listed.setIfInBounds i true) := by
  obtain ⟨_, _, h3⟩ := ready_deps hr
  refine ⟨by simp [inv.size], fun j k hj hk => ?_⟩
  by_cases hij : i = j
  · subst hij; exact getD_set_true (h3 k hk)
  · rw [getD_set_ne false hij] at hj
    exact getD_set_true (inv.closed j k hj hk)

theorem getD_lt {i : Nat} (hi : i < listed.size) : listed.getD i true = listed.getD i false := by
  simp [hi]

/-- The first that is not listed is ready. -/
theorem least_ready (inv : LInv ops listed) (hb : chkBack ops ops.length = true) : ∀ i, i < ops.length → listed.getD i false = false → ∃ j, j ≤ i ∧ j ∈ ready .any ⟨ops⟩ listed := by
  intro i
  induction i using Nat.strongRecOn with
  | _ i ih =>
    intro hi hl
    by_cases hall : ∀ k ∈ deps ops i, listed.getD k false = true
    · refine ⟨i, Nat.le_refl _, mem_ready.2 ⟨by rw [getD_lt (by rw [inv.size]; exact hi)]; exact hl, ops[i], by simp [hi], fun e he hbd => hall e.on ?_⟩⟩
      simp only [deps, List.getElem?_eq_getElem hi, List.mem_filterMap]
      exact ⟨e, by simpa using he, by rw [if_pos hbd]⟩
    · simp only [Classical.not_forall] at hall
      obtain ⟨k, hk, hkl⟩ := hall
      have hlt : k < i := by
        have := List.all_eq_true.1 hb i (List.mem_range.2 hi)
        have := List.all_eq_true.1 this k hk
        simpa using this
      obtain ⟨j, hj, hr⟩ := ih k hlt (by omega) (by simpa using hkl)
      exact ⟨j, by omega, hr⟩

theorem count_set : ∀ (m : Nat) (i : Nat) (p q : Nat → Bool), i < m → p i = true → q i = false → (∀ j, j ≠ i → q j = p j) → ((List.range m).filter q).length + 1 = ((List.range m).filter p).length := by
  intro m
  induction m with
  | zero => intro i p q hi; omega
  | succ m ih =>
    intro i p q hi hp hq hne
    rw [List.range_succ, List.filter_append, List.filter_append, List.length_append, List.length_append]
    by_cases him : i = m
    · subst him
      have e : (List.range i).filter q = (List.range i).filter p := List.filter_congr fun j hj => hne j (by have := List.mem_range.1 hj; omega)
      rw [e]; simp [hp, hq]
    · have := ih i p q (by omega) hp hq hne
      have e : [m].filter q = [m].filter p := List.filter_congr fun j hj => hne j (by simp at hj; omega)
      rw [e]; omega

end

/-! ### What one operation yields, by its operands alone -/
def St.only (s : St) (l : List Nat) : St := ⟨l.map fun t => (t, eget s.env t), s.heap, s.nx, s.n, s.lv⟩

theorem eget_only : ∀ (f : Nat → V) (l : List Nat) (t : Nat), eget (l.map fun t => (t, f t)) t = if t ∈ l then f t else .junk
  | f, [], t => rfl
  | f, x :: l, t => by
    simp only [List.map_cons, eget]
    rw [Bool.cond_eq_ite]
    by_cases h : t = x
    · subst h; simp
    · rw [if_neg (by simp [h]), eget_only f l t]; simp [h]

def ORun (P : Program) (s : St) (o : Oper) (x : V) : Prop :=
  ∀ C w a, StRep C w a s → ∀ (K : Act → World → Prop) (Q : Exit → Act → World → Prop),
    (∀ C' w' v, Rep C' w' v x → Ext C C' w w' → Fr C C' w w' → HSt C' w' s.heap → C'.nx = C.nx → (∀ l, C.lv l → C'.lv l) → K (a.put o.dst v) w') → o.wp P a w K Q

def OYield (P : Program) (ops : List Oper) (o : Oper) (s : St) (x : V) : Prop :=
  (gd ops (s.only (gSlots ops o)) o.guard = some true ∧ ORun P (s.only (opSlots o)) o x) ∨ (gd ops (s.only (gSlots ops o)) o.guard = some false ∧ x = .tup [])

theorem only_rep {C : Ctx} {w : World} {a : Act} {s : St} (hs : StRep C w a s) (l : List Nat) : StRep C w a (s.only l) :=
  ⟨hs.defers, hs.size, hs.nx, fun i => by
    show Rep C w _ (eget (l.map fun t => (t, eget s.env t)) i)
    rw [eget_only (fun t => eget s.env t) l i]
    split
    · exact hs.env i
    · exact .junk _, hs.heap, hs.lv⟩

/-- Two states that read alike. -/
structure Same (s s' : St) : Prop where
  env : ∀ t, eget s.env t = eget s'.env t
  heap : s.heap = s'.heap
  nx : s.nx = s'.nx
  n : s.n = s'.n
  lv : s.lv = s'.lv
theorem Same.refl (s : St) : Same s s := ⟨fun _ => rfl, rfl, rfl, rfl, rfl⟩
theorem Same.rep {C : Ctx} {w : World} {a : Act} {s s' : St} (h : Same s s') (hs : StRep C w a s) : StRep C w a s' :=
  ⟨hs.defers, by rw [hs.size, h.n], by rw [hs.nx, h.nx], fun i => by rw [← h.env i]; exact hs.env i, by rw [← h.heap]; exact hs.heap, by rw [← h.lv]; exact hs.lv⟩

theorem only_same {s s' : St} (l : List Nat) (he : ∀ t ∈ l, eget s.env t = eget s'.env t) (hh : s.heap = s'.heap) (hx : s.nx = s'.nx) (hn : s.n = s'.n) (hl : s.lv = s'.lv) : s.only l = s'.only l := by
  unfold St.only
  rw [hh, hx, hn, hl]
  congr 1
  exact List.map_congr_left fun t ht => by rw [he t ht]

theorem yield_same {P : Program} {ops : List Oper} {o : Oper} {s s' : St} {x : V} (he : ∀ t ∈ opSlots o ++ gSlots ops o, eget s.env t = eget s'.env t) (hh : s.heap = s'.heap) (hx : s.nx = s'.nx) (hn : s.n = s'.n) (hl : s.lv = s'.lv)
    (h : OYield P ops o s x) : OYield P ops o s' x := by
  unfold OYield at *
  rw [← only_same (gSlots ops o) (fun t ht => he t (List.mem_append.2 (.inr ht))) hh hx hn hl, ← only_same (opSlots o) (fun t ht => he t (List.mem_append.2 (.inl ht))) hh hx hn hl]
  exact h

def AD (P : Program) (ops : List Oper) : List Oper → St → (List (Option Nat × V) → St → Prop) → Prop
  | [], s, K => K [] s
  | o :: r, s, K => ∃ x s1, OYield P ops o s x ∧ s.put o.dst x = some s1 ∧ AD P ops r s1 (fun l => K ((o.dst, x) :: l))

def after (E : Nat → V) : List (Option Nat × V) → Nat → V
  | [], t => E t
  | (d, x) :: r, t => after (fun u => if d = some u then x else E u) r t

theorem after_miss : ∀ (L : List (Option Nat × V)) (E : Nat → V) (t : Nat), (∀ p ∈ L, p.1 ≠ some t) → after E L t = E t
  | [], _, _, _ => rfl
  | (d, x) :: r, E, t, h => by
    simp only [after]
    rw [after_miss r _ t (fun p hp => h p (by simp [hp]))]
    rw [if_neg (h (d, x) (by simp))]

theorem after_hit : ∀ (L : List (Option Nat × V)) (E : Nat → V) (t i : Nat) (p : Option Nat × V), L[i]? = some p → p.1 = some t → (∀ j q, j ≠ i → L[j]? = some q → q.1 ≠ some t) → after E L t = p.2
  | [], _, _, i, _, h, _, _ => by simp at h
  | (d, x) :: r, E, t, 0, p, h, hp, hu => by
    simp at h
    subst h
    simp only [after]
    rw [after_miss r _ t (fun q hq => by
      obtain ⟨j, hj⟩ := List.getElem?_of_mem hq
      exact hu (j + 1) q (by omega) (by simpa using hj))]
    rw [if_pos hp]
  | (d, x) :: r, E, t, i + 1, p, h, hp, hu => by
    simp only [after]
    exact after_hit r _ t i p (by simpa using h) hp (fun j q hj hq => hu (j + 1) q (by omega) (by simpa using hq))

theorem put_spec {s s1 : St} {d : Option Nat} {x : V} (h : s.put d x = some s1) : (∀ t, eget s1.env t = if d = some t then x else eget s.env t) ∧ s1.heap = s.heap ∧ s1.nx = s.nx ∧ s1.n = s.n ∧ s1.lv = s.lv ∧ (∀ u, d = some u → u < s.n) := by
  cases d with
  | none =>
    have : s.put none x = some s := by cases s; rfl
    rw [this] at h; simp at h; subst h
    exact ⟨fun t => by simp, rfl, rfl, rfl, rfl, fun u hu => by simp at hu⟩
  | some d =>
    have : s.put (some d) x = bif Nat.blt d s.n then some { s with env := (d, x) :: s.env } else none := by cases s; rfl
    rw [this, Bool.cond_eq_ite] at h
    split at h
    · rename_i hd
      simp only [Option.some.injEq] at h
      subst h
      refine ⟨fun t => ?_, rfl, rfl, rfl, rfl, fun u hu => by simp at hu; subst hu; simpa using hd⟩
      simp only [eget]
      rw [Bool.cond_eq_ite]
      by_cases ht : t = d
      · subst ht; simp
      · rw [if_neg (by simp [ht]), if_neg (fun e => ht (by simp at e; exact e.symm))]
    · simp at h

theorem put_of {s : St} {d : Option Nat} {x : V} (h : ∀ u, d = some u → u < s.n) : ∃ s1, s.put d x = some s1 := by
  cases d with
  | none => exact ⟨s, by cases s; rfl⟩
  | some d =>
    have : s.put (some d) x = bif Nat.blt d s.n then some { s with env := (d, x) :: s.env } else none := by cases s; rfl
    exact ⟨_, by rw [this, show Nat.blt d s.n = true from by simpa using h d rfl]; rfl⟩

structure SameBut (s s' : St) : Prop where
  heap : s.heap = s'.heap
  nx : s.nx = s'.nx
  n : s.n = s'.n
  lv : s.lv = s'.lv

theorem ad_spec {P : Program} {ops : List Oper} : ∀ (l : List Oper) (s : St) (K : List (Option Nat × V) → St → Prop), AD P ops l s K →
    ∃ L sf, K L sf ∧ L.length = l.length ∧ (∀ t, eget sf.env t = after (eget s.env) L t) ∧ SameBut sf s ∧
      ∀ j o, l[j]? = some o → ∃ p sj, L[j]? = some p ∧ p.1 = o.dst ∧ OYield P ops o sj p.2 ∧ (∀ t, eget sj.env t = after (eget s.env) (L.take j) t) ∧ SameBut sj s ∧ (∀ u, o.dst = some u → u < s.n)
  | [], s, K, h => ⟨[], s, h, rfl, fun _ => rfl, ⟨rfl, rfl, rfl, rfl⟩, fun j o hj => by simp at hj⟩
  | o :: r, s, K, h => by
    obtain ⟨x, s1, h1, h2, h3⟩ := h
    obtain ⟨L, sf, g1, g2, g3, g4, g5⟩ := ad_spec r s1 _ h3
    obtain ⟨p1, p2, p3, p4, p5, p6⟩ := put_spec h2
    have hE : eget s1.env = fun u => if o.dst = some u then x else eget s.env u := funext p1
    refine ⟨(o.dst, x) :: L, sf, g1, by simp [g2], fun t => by rw [g3 t, hE]; rfl, ⟨g4.heap.trans p2, g4.nx.trans p3, g4.n.trans p4, g4.lv.trans p5⟩, fun j o' hj => ?_⟩
    cases j with
    | zero =>
      simp at hj
      subst hj
      exact ⟨_, s, by simp; rfl, rfl, h1, fun t => by simp [after], ⟨rfl, rfl, rfl, rfl⟩, p6⟩
    | succ j =>
      obtain ⟨p, sj, q1, q2, q3, q4, q5, q6⟩ := g5 j o' (by simpa using hj)
      exact ⟨p, sj, by simpa using q1, q2, q3, fun t => by rw [q4 t, hE]; rfl, ⟨q5.heap.trans p2, q5.nx.trans p3, q5.n.trans p4, q5.lv.trans p5⟩, fun u hu => by rw [← p4]; exact q6 u hu⟩

section
variable {P : Program} {ops : List Oper} {m : Nat}

theorem chkAnd (h : drawOk ops m = true) : chkBack ops ops.length = true ∧ chkNeeds ops m ops.length = true ∧ chkDst ops m = true ∧ chkTail ops m ops.length = true ∧ m ≤ ops.length := by
  simp only [drawOk, Bool.and_eq_true] at h
  obtain ⟨⟨⟨⟨h1, h2⟩, h3⟩, h4⟩, h5⟩ := h
  exact ⟨h1, h2, h3, h4, by simpa [chkSel] using h5⟩

theorem dst_unique (h : chkDst ops m = true) {i j t : Nat} (hi : i < m) (hj : j < m) (h1 : dstAt ops i = some t) (h2 : dstAt ops j = some t) : i = j := by
  have a := List.all_eq_true.1 (List.all_eq_true.1 h i (List.mem_range.2 hi)) j (List.mem_range.2 hj)
  rw [h1, h2] at a
  simpa using a

theorem tail_waits' {listed : Array Bool} (inv : LInv ops listed) (h : chkTail ops m ops.length = true) {t i : Nat} (hr : t ∈ ready .any ⟨ops⟩ listed) (ht : m ≤ t) (hi : i < t) : listed.getD i false = true := by
  obtain ⟨_, h2, h3⟩ := ready_deps hr
  have a := List.all_eq_true.1 h t (List.mem_range.2 h2)
  simp only [Bool.or_eq_true] at a
  rcases a with a | a
  · rw [Nat.blt_eq] at a; omega
  · exact anc_listed inv _ t i h3 (List.all_eq_true.1 a i (List.mem_range.2 hi))

/-- The tail, in the one order that there is. -/
theorem tail_any {Q : Exit → Act → World → Prop} (hok : drawOk ops m = true) : ∀ (g k : Nat) (listed : Array Bool) (a : Act) (w : World), k + g = ops.length → m ≤ k → LInv ops listed → (∀ i, i < k → listed.getD i false = true) → (∀ i, k ≤ i → i < ops.length → listed.getD i true = false) →
    wpList P ⟨ops⟩ Q (ops.drop k) a w → wpAny P .any ⟨ops⟩ Q g listed a w
  | 0, k, listed, a, w, hk, _, inv, hall, _, h => by
    have : ops.drop k = [] := List.drop_eq_nil_of_le (by omega)
    rw [this] at h
    refine ⟨?_, h⟩
    cases hrd : ready .any ⟨ops⟩ listed with
    | nil => rfl
    | cons j r =>
      have hj : j ∈ ready .any ⟨ops⟩ listed := by rw [hrd]; simp
      obtain ⟨h1, h2, _⟩ := ready_deps hj
      have := hall j (by omega)
      rw [getD_lt (by rw [inv.size]; exact h2)] at h1
      rw [h1] at this; cases this
  | g + 1, k, listed, a, w, hk, hmk, inv, hall, hno, h => by
    obtain ⟨c1, c2, c3, c4, c5⟩ := chkAnd hok
    have hkl : k < ops.length := by omega
    have hkf : listed.getD k false = false := by
      have := hno k (Nat.le_refl _) hkl
      rwa [getD_lt (by rw [inv.size]; exact hkl)] at this
    obtain ⟨j, hj1, hj2⟩ := least_ready inv c1 k hkl hkf
    refine ⟨fun h0 => by rw [h0] at hj2; simp at hj2, fun i hi => ?_⟩
    obtain ⟨i1, i2, i3⟩ := ready_deps hi
    have hik : i = k := by
      rcases Nat.lt_trichotomy i k with h | h | h
      · have := hall i h
        rw [getD_lt (by rw [inv.size]; exact i2)] at i1
        rw [i1] at this; cases this
      · exact h
      · have := tail_waits' inv c4 hi (by omega) h
        rw [hkf] at this; cases this
    subst hik
    have hd : ops.drop i = ops[i] :: ops.drop (i + 1) := List.drop_eq_getElem_cons hkl
    rw [hd] at h
    have hop : (⟨ops⟩ : Array Oper)[i]? = some ops[i] := by simp [hkl]
    have hinv2 := inv.set hi
    have next : ∀ a w, wpList P ⟨ops⟩ Q (ops.drop (i + 1)) a w → wpAny P .any ⟨ops⟩ Q g (listed.setIfInBounds i true) a w := fun a w hh =>
      tail_any hok g (i + 1) _ a w (by omega) (by omega) hinv2 (fun x hx => by
        by_cases hxi : x = i
        · subst hxi; simp [inv.size, hkl]
        · rw [getD_set_ne false (fun e => hxi e.symm)]; exact hall x (by omega)) (fun x hx hx2 => by rw [getD_set_ne true (by omega)]; exact hno x (by omega) hx2) hh
    unfold wpOp
    rw [hop]
    simp only
    unfold wpList at h
    split at h
    · rename_i hw
      rw [if_pos hw]
      exact h.imp (Oper.wp_mono next) id
    · rename_i hw
      rw [if_neg hw]
      exact next _ _ h

/-- What a state reads where some of the first m operations have come up. -/
structure Cur (ops : List Oper) (m : Nat) (val : Nat → V) (s0 : St) (listed : Array Bool) (s : St) : Prop where
  on : ∀ i t, i < m → dstAt ops i = some t → listed.getD i false = true → eget s.env t = val i
  off : ∀ t, (∀ i, i < m → dstAt ops i = some t → listed.getD i false = false) → eget s.env t = eget s0.env t
  mt : SameBut s s0

theorem drawn_main {s0 : St} {val : Nat → V} {C0 : Ctx} {w0 : World} {Q : Exit → Act → World → Prop} {g : Nat} (hok : drawOk ops m = true)
    (hy : ∀ i o, i < m → ops[i]? = some o → ∃ si, OYield P ops o si (val i) ∧ SameBut si s0 ∧ (∀ u, o.dst = some u → u < s0.n) ∧
      (∀ t, (∀ j, j < m → dstAt ops j = some t → j < i → eget si.env t = val j) ∧ ((∀ j, j < m → dstAt ops j = some t → ¬ j < i) → eget si.env t = eget s0.env t)))
    (hend : ∀ listed C w a s, StRep C w a s → Fr C0 C w0 w → Cur ops m val s0 listed s → LInv ops listed → (∀ i, i < m → listed.getD i false = true) → (∀ i, m ≤ i → i < ops.length → listed.getD i true = false) → wpAny P .any ⟨ops⟩ Q g listed a w) :
    ∀ (f : Nat) (listed : Array Bool) C w a s, ((List.range m).filter fun i => !listed.getD i false).length = f → StRep C w a s → Fr C0 C w0 w → Cur ops m val s0 listed s → LInv ops listed → (∀ i, m ≤ i → i < ops.length → listed.getD i true = false) →
      wpAny P .any ⟨ops⟩ Q (f + g) listed a w
  | 0, listed, C, w, a, s, hf, hs, hF, hc, inv, hno => by
    rw [Nat.zero_add]
    refine hend listed C w a s hs hF hc inv (fun i hi => ?_) hno
    have := List.filter_eq_nil_iff.1 (List.length_eq_zero_iff.1 hf) i (List.mem_range.2 hi)
    simpa using this
  | f + 1, listed, C, w, a, s, hf, hs, hF, hc, inv, hno => by
    obtain ⟨c1, c2, c3, c4, c5⟩ := chkAnd hok
    rw [show f + 1 + g = (f + g) + 1 by omega]
    have hex : ∃ i, i < m ∧ listed.getD i false = false := by
      cases hl : (List.range m).filter fun i => !listed.getD i false with
      | nil => rw [hl] at hf; simp at hf
      | cons i r =>
        have : i ∈ (List.range m).filter fun i => !listed.getD i false := by rw [hl]; simp
        have := List.mem_filter.1 this
        exact ⟨i, List.mem_range.1 this.1, by simpa using this.2⟩
    obtain ⟨i0, hi0, hl0⟩ := hex
    obtain ⟨j0, _, hj0⟩ := least_ready inv c1 i0 (by omega) hl0
    refine ⟨fun h0 => by rw [h0] at hj0; simp at hj0, fun i hi => ?_⟩
    obtain ⟨i1, i2, i3⟩ := ready_deps hi
    have hil : listed.getD i false = false := by rwa [getD_lt (by rw [inv.size]; exact i2)] at i1
    have him : i < m := by
      rcases Nat.lt_or_ge i m with h | h
      · exact h
      · have := tail_waits' inv c4 hi h (i := i0) (by omega)
        rw [hl0] at this; cases this
    have hoi : ops[i]? = some ops[i] := List.getElem?_eq_getElem i2
    have hop : (⟨ops⟩ : Array Oper)[i]? = some ops[i] := by simp [i2]
    obtain ⟨si, y1, y2, y3, y4⟩ := hy i ops[i] him hoi
    have hdi : dstAt ops i = ops[i].dst := by simp [dstAt, hoi]
    -- the operands read alike
    have hsame : ∀ t ∈ opSlots ops[i] ++ gSlots ops ops[i], eget si.env t = eget s.env t := fun t ht => by
      by_cases hw : ∃ j, j < m ∧ dstAt ops j = some t
      · obtain ⟨j, hj, hjt⟩ := hw
        have huniq : ∀ j', j' < m → dstAt ops j' = some t → j' = j := fun j' h1 h2 => dst_unique c3 h1 hj h2 hjt
        have hn : needs ops i = opSlots ops[i] ++ gSlots ops ops[i] := by simp [needs, hoi]
        have hck := List.all_eq_true.1 (List.all_eq_true.1 (List.all_eq_true.1 c2 i (List.mem_range.2 him)) t (by rw [hn]; exact ht)) j (List.mem_range.2 hj)
        simp only [Bool.or_eq_true, Bool.not_eq_true', hjt] at hck
        rcases Nat.lt_trichotomy j i with hlt | heq | hgt
        · have hja : anc ops ops.length i j = true := by
            rcases hck with (h | h) | h
            · rw [Nat.beq_eq] at h; omega
            · simp at h
            · rwa [show Nat.blt j i = true from by simpa using hlt] at h
          have hjl := anc_listed inv _ i j i3 hja
          rw [(y4 t).1 j hj hjt hlt, hc.on j t hj hjt hjl]
        · subst heq
          rw [(y4 t).2 (fun j' h1 h2 => by rw [huniq j' h1 h2]; omega), hc.off t (fun j' h1 h2 => by rw [huniq j' h1 h2]; exact hil)]
        · have hja : anc ops ops.length j i = true := by
            rcases hck with (h | h) | h
            · rw [Nat.beq_eq] at h; omega
            · simp at h
            · rwa [show Nat.blt j i = false from Bool.eq_false_iff.2 (by rw [ne_eq, Nat.blt_eq]; omega)] at h
          have hjl : listed.getD j false = false := by
            cases hjl : listed.getD j false with
            | false => rfl
            | true =>
              have := anc_listed inv _ j i (fun k hk => inv.closed j k hjl hk) hja
              rw [hil] at this; cases this
          rw [(y4 t).2 (fun j' h1 h2 => by rw [huniq j' h1 h2]; omega), hc.off t (fun j' h1 h2 => by rw [huniq j' h1 h2]; exact hjl)]
      · have hnone : ∀ j, j < m → dstAt ops j = some t → False := fun j h1 h2 => hw ⟨j, h1, h2⟩
        rw [(y4 t).2 (fun j h1 h2 => (hnone j h1 h2).elim), hc.off t (fun j h1 h2 => (hnone j h1 h2).elim)]
    have hyi : OYield P ops ops[i] s (val i) := yield_same hsame (y2.heap.trans hc.mt.heap.symm) (y2.nx.trans hc.mt.nx.symm) (y2.n.trans hc.mt.n.symm) (y2.lv.trans hc.mt.lv.symm) y1
    obtain ⟨s1, hs1⟩ := put_of (s := s) (d := ops[i].dst) (x := val i) (fun u hu => by rw [hc.mt.n]; exact y3 u hu)
    obtain ⟨p1, p2, p3, p4, p5, p6⟩ := put_spec hs1
    have hcur : Cur ops m val s0 (listed.setIfInBounds i true) s1 := by
      refine ⟨fun j t hj hjt hl => ?_, fun t ht => ?_, ⟨p2.trans hc.mt.heap, p3.trans hc.mt.nx, p4.trans hc.mt.n, p5.trans hc.mt.lv⟩⟩
      · rw [p1 t]
        by_cases hji : j = i
        · subst hji; rw [if_pos (by rw [← hdi]; exact hjt)]
        · rw [getD_set_ne false (fun e => hji e.symm)] at hl
          rw [if_neg (fun e => hji (dst_unique c3 hj him hjt (by rw [hdi]; exact e)))]
          exact hc.on j t hj hjt hl
      · rw [p1 t]
        have hne : ¬ ops[i].dst = some t := fun e => by
          have := ht i him (by rw [hdi]; exact e)
          simp [inv.size, i2] at this
        rw [if_neg hne]
        refine hc.off t (fun j hj hjt => ?_)
        have hji : j ≠ i := fun e => by subst e; exact hne (by rw [← hdi]; exact hjt)
        have := ht j hj hjt
        rwa [getD_set_ne false (fun e => hji e.symm)] at this
    have hinv2 := inv.set hi
    have hcnt : ((List.range m).filter fun j => !(listed.setIfInBounds i true).getD j false).length = f := by
      have := count_set m i (fun j => !listed.getD j false) (fun j => !(listed.setIfInBounds i true).getD j false) him (by simp [hil]) (by simp [inv.size, i2]) (fun j hj => by rw [getD_set_ne false (fun e => hj e.symm)])
      omega
    have hno2 : ∀ j, m ≤ j → j < ops.length → (listed.setIfInBounds i true).getD j true = false := fun j h1 h2 => by rw [getD_set_ne true (by omega)]; exact hno j h1 h2
    have next : ∀ C' w' a', StRep C' w' a' s1 → Fr C C' w w' → wpAny P .any ⟨ops⟩ Q (f + g) (listed.setIfInBounds i true) a' w' := fun C' w' a' h1 h2 =>
      drawn_main hok hy hend f _ C' w' a' s1 hcnt h1 (hF.trans h2) hcur hinv2 hno2
    unfold wpOp
    rw [hop]
    simp only
    rcases hyi with ⟨hg, hr⟩ | ⟨hg, hx⟩
    · rw [if_pos (gd_spec (ops := ⟨ops⟩) (only_rep hs _) hg)]
      refine .inl (hr C w a (only_rep hs _) _ Q (fun C' w' v r1 r2 r3 r4 r5 r6 => next C' w' _ ?_ r3))
      exact put_rep ⟨hs.defers, hs.size, by rw [r5]; exact hs.nx, fun k => (hs.env k).mono r2, r4, fun l hl => r6 l (hs.lv l hl)⟩ r1 hs1
    · rw [if_neg (by rw [gd_spec (ops := ⟨ops⟩) (only_rep hs _) hg]; simp)]
      rw [hx] at hs1
      exact next C w _ (put_rep hs (.tup .nil) hs1) (Fr.refl _ _)

theorem getD_rep (m j : Nat) : (Array.replicate m false).getD j false = false := by
  rcases Nat.lt_or_ge j m with h | h
  · simp [h]
  · simp [h]

/-- A REGION THAT DRAWS ITS ORDER: one walk of its first m operations in the text's order, then the others. -/
theorem at_drawn {id : Nat} {l : List Oper} {s : St} {K : Exit → St → Prop} (m : Nat) (hm : P.follows .mixedOrders = true) (hok : drawOk l m = true)
    (h : AD P l (l.take m) s (fun _ s1 => ∃ s2, Same s1 s2 ∧ AOps P ⟨l⟩ (l.drop m) s2 (fun s' => K .normal s'))) : AT P (.region id ⟨l⟩ true) s K := by
  intro C w a hs
  obtain ⟨c1, c2, c3, c4, c5⟩ := chkAnd hok
  obtain ⟨L, sf, ⟨s2, k1, k2⟩, g2, g3, g4, g5⟩ := ad_spec _ _ _ h
  have hlen : (l.take m).length = m := by simp; omega
  rw [hlen] at g2
  have hw : Agree w { w with drawn := w.drawn + 1 } := ⟨Nat.le_refl _, fun _ _ => rfl, rfl, rfl⟩
  have hs0 : StRep C { w with drawn := w.drawn + 1 } a s := agree_rep hs hw
  let val : Nat → V := fun i => (L.getD i (none, .junk)).2
  have hval : ∀ i p, L[i]? = some p → val i = p.2 := fun i p hp => by simp [val, List.getD, hp]
  have hdst : ∀ j p, L[j]? = some p → j < m ∧ p.1 = dstAt l j := fun j p hp => by
    have hj : j < m := by
      rcases Nat.lt_or_ge j L.length with h | h
      · omega
      · simp [List.getElem?_eq_none h] at hp
    have hjl : j < l.length := by omega
    obtain ⟨p', _, q1, q2, _⟩ := g5 j l[j] (by rw [List.getElem?_take, if_pos hj]; exact List.getElem?_eq_getElem hjl)
    rw [hp] at q1
    simp only [Option.some.injEq] at q1
    subst q1
    exact ⟨hj, by rw [q2]; simp [dstAt, List.getElem?_eq_getElem hjl]⟩
  have hLget : ∀ j, j < m → ∃ p, L[j]? = some p := fun j hj => ⟨L[j]'(by omega), List.getElem?_eq_getElem (by omega)⟩
  have reads : ∀ (E : Nat → V) (k t : Nat), k ≤ m → (∀ j, j < m → dstAt l j = some t → j < k → after E (L.take k) t = val j) ∧ ((∀ j, j < m → dstAt l j = some t → ¬ j < k) → after E (L.take k) t = E t) := fun E k t hk => by
    refine ⟨fun j hj hjt hjk => ?_, fun hnone => ?_⟩
    · obtain ⟨p, hp⟩ := hLget j hj
      have h1 := (hdst j p hp).2
      rw [hval j p hp]
      refine after_hit _ E t j p (by rw [List.getElem?_take, if_pos hjk]; exact hp) (by rw [h1]; exact hjt) (fun j' q hne hq => ?_)
      rw [List.getElem?_take] at hq
      split at hq
      · obtain ⟨h2, h3⟩ := hdst j' q hq
        exact fun e => hne (dst_unique c3 h2 hj (by rw [← h3]; exact e) hjt)
      · simp at hq
    · refine after_miss _ E t (fun p hp => ?_)
      obtain ⟨j, hj⟩ := List.getElem?_of_mem hp
      rw [List.getElem?_take] at hj
      split at hj
      · obtain ⟨h2, h3⟩ := hdst j p hj
        exact fun e => hnone j h2 (by rw [← h3]; exact e) (by assumption)
      · simp at hj
  refine wp_region_any hm ?_
  have hsz : (⟨l⟩ : Array Oper).size = m + (l.length - m) := by show l.length = _; omega
  rw [hsz]
  have hinv0 : LInv l (Array.replicate (m + (l.length - m)) false) := ⟨by simp; omega, fun i k hi _ => by rw [getD_rep] at hi; cases hi⟩
  have hgt : ∀ i, i < l.length → (Array.replicate (m + (l.length - m)) false).getD i true = false := fun i hi => by
    rw [getD_lt (by simp; omega)]; exact getD_rep _ _
  refine drawn_main (s0 := s) (val := val) (C0 := C) (w0 := w) hok ?_ ?_ m _ C _ a s ?_ hs0 (agree_fr hw) ⟨fun i t _ _ hl => ?_, fun t _ => rfl, ⟨rfl, rfl, rfl, rfl⟩⟩ hinv0 (fun i _ hi => hgt i hi)
  · intro i o hi ho
    obtain ⟨p, sj, q1, q2, q3, q4, q5, q6⟩ := g5 i o (by rw [List.getElem?_take, if_pos hi]; exact ho)
    refine ⟨sj, by rw [hval i p q1]; exact q3, q5, q6, fun t => ?_⟩
    have := reads (eget s.env) i t (by omega)
    rw [q4 t]
    exact this
  · intro listed C' w' a' s' r1 r2 r3 r4 r5 r6
    have hsame : Same s' s2 := by
      refine ⟨fun t => ?_, r3.mt.heap.trans (g4.heap.symm.trans k1.heap), r3.mt.nx.trans (g4.nx.symm.trans k1.nx), r3.mt.n.trans (g4.n.symm.trans k1.n), r3.mt.lv.trans (g4.lv.symm.trans k1.lv)⟩
      rw [← k1.env t, g3 t]
      have hr := reads (eget s.env) m t (Nat.le_refl _)
      rw [List.take_of_length_le (by omega)] at hr
      by_cases hw2 : ∃ j, j < m ∧ dstAt l j = some t
      · obtain ⟨j, hj, hjt⟩ := hw2
        rw [hr.1 j hj hjt hj, r3.on j t hj hjt (r5 j hj)]
      · have hnone : ∀ j, j < m → dstAt l j = some t → False := fun j h1 h2 => hw2 ⟨j, h1, h2⟩
        rw [hr.2 (fun j h1 h2 => (hnone j h1 h2).elim), r3.off t (fun j h1 h2 => (hnone j h1 h2).elim)]
    refine tail_any hok (l.length - m) m listed a' w' (by omega) (Nat.le_refl _) r4 r5 r6 ?_
    exact k2 C' w' a' _ (hsame.rep r1) (fun C2 w2 a2 s3 e1 e2 e3 => ⟨C2, s3, e1, r2.trans e2, e3⟩)
  · have : ((List.range m).filter fun i => !(Array.replicate (m + (l.length - m)) false).getD i false) = List.range m := List.filter_eq_self.2 fun i _ => by rw [getD_rep]; rfl
    rw [this]; simp
  · rw [getD_rep] at hl; cases hl

/-! ### The rules -/
def DR (P : Program) (ops l : List Oper) (s : St) (N : St → Prop) : Prop := AD P ops l s (fun _ s1 => ∃ s2, Same s1 s2 ∧ N s2)

theorem Same.trans {s s' s2 : St} (h : Same s s') (g : Same s' s2) : Same s s2 := ⟨fun t => (h.env t).trans (g.env t), h.heap.trans g.heap, h.nx.trans g.nx, h.n.trans g.n, h.lv.trans g.lv⟩

theorem ad_same {N : St → Prop} : ∀ (l : List Oper) (s s' : St), Same s s' → ∀ K K' : List (Option Nat × V) → St → Prop, (∀ L t t', Same t t' → K' L t' → K L t) → AD P ops l s' K' → AD P ops l s K
  | [], s, s', h, K, K', hk, g => hk [] s s' h g
  | o :: r, s, s', h, K, K', hk, ⟨x, s1, g1, g2, g3⟩ => by
    obtain ⟨p1, p2, p3, p4, p5, p6⟩ := put_spec g2
    obtain ⟨t1, ht1⟩ := put_of (s := s) (d := o.dst) (x := x) (fun u hu => by rw [h.n]; exact p6 u hu)
    obtain ⟨q1, q2, q3, q4, q5, q6⟩ := put_spec ht1
    refine ⟨x, t1, yield_same (fun t _ => (h.env t).symm) h.heap.symm h.nx.symm h.n.symm h.lv.symm g1, ht1, ad_same (N := N) r t1 s1 ⟨fun t => by rw [q1 t, p1 t, h.env t], by rw [q2, p2, h.heap], by rw [q3, p3, h.nx], by rw [q4, p4, h.n], by rw [q5, p5, h.lv]⟩ _ _ (fun L t t' ht hK => hk _ t t' ht hK) g3⟩

theorem dr_same {N : St → Prop} {l : List Oper} {s s' : St} (h : Same s s') (g : DR P ops l s' N) : DR P ops l s N :=
  ad_same (N := N) l s s' h _ _ (fun _ t t' ht ⟨s2, h1, h2⟩ => ⟨s2, ht.trans h1, h2⟩) g

theorem dr_nil {s : St} {N : St → Prop} (h : N s) : DR P ops [] s N := ⟨s, Same.refl s, h⟩

theorem dr_cons {o : Oper} {r : List Oper} {s s1 : St} {x : V} {N : St → Prop} (hy : OYield P ops o s x) (hp : s.put o.dst x = some s1) (h : DR P ops r s1 N) : DR P ops (o :: r) s N := ⟨x, s1, hy, hp, h⟩

theorem orun_val {s : St} {d : Option Nat} {op : Op} {ty : Nat} {pos : String} {af : Array Edge} {gu : Option (Nat × Bool)} {x : V} (h : OpVal P s op x) : ORun P s ⟨d, op, ty, pos, af, gu⟩ x := by
  intro C w a hs K Q hK
  obtain ⟨v, h1, h2⟩ := h C w a hs d ty pos af gu
  unfold Oper.wp
  rw [h1 w (Agree.refl w)]
  exact hK C w v h2 (Ext.refl _ _) (Fr.refl _ _) hs.heap rfl (fun _ h => h)

/-- In a region that draws: a value that owes a proof. -/
theorem dv {d : Option Nat} {op : Op} {ty : Nat} {pos : String} {af : Array Edge} {gu : Option (Nat × Bool)} {r : List Oper} {s s1 : St} {x : V} {N : St → Prop} (hg : gd ops (s.only (gSlots ops ⟨d, op, ty, pos, af, gu⟩)) gu = some true)
    (hx : OpVal P (s.only (opSlots ⟨d, op, ty, pos, af, gu⟩)) op x) (hp : s.put d x = some s1) (h : DR P ops r s1 N) : DR P ops (⟨d, op, ty, pos, af, gu⟩ :: r) s N :=
  dr_cons (.inl ⟨hg, orun_val hx⟩) hp h

def dstep (T : List TI) (ops : List Oper) (s : St) (o : Oper) : Option St :=
  match gd ops (s.only (gSlots ops o)) o.guard with
  | some true => (match pstep T (s.only (opSlots o)) o.op with
    | some v => s.put o.dst v
    | none => none)
  | some false => s.put o.dst (.tup [])
  | none => none

theorem dx {T : List TI} {o : Oper} {r : List Oper} {s s' : St} {N : St → Prop} (hT : TabOK P T) (hx : dstep T ops s o = some s') (h : DR P ops r s' N) : DR P ops (o :: r) s N := by
  unfold dstep at hx
  split at hx
  · rename_i hg
    split at hx
    · rename_i v hv
      obtain ⟨d, op, ty, pos, af, gu⟩ := o
      exact dv hg (ov_step hT hv) hx h
    · simp at hx
  · rename_i hg
    exact dr_cons (.inr ⟨hg, rfl⟩) hx h
  · simp at hx

theorem d_split {l : List Oper} {s : St} {g : Nat} {b : Bool} {N : St → Prop} (hv : eget s.env g = .bool b) (ht : b = true → DR P ops l (s.ovr g (.bool true)) N) (hf : b = false → DR P ops l (s.ovr g (.bool false)) N) : DR P ops l s N := by
  have key : ∀ c, b = c → Same s (s.ovr g (.bool c)) := fun c hc => by
    subst hc
    have : s.ovr g (.bool b) = { s with env := (g, .bool b) :: s.env } := by cases s; rfl
    rw [this]
    refine ⟨fun t => ?_, rfl, rfl, rfl, rfl⟩
    simp only [eget]
    rw [Bool.cond_eq_ite]
    by_cases h : t = g
    · subst h; rw [if_pos (by simp)]; exact hv
    · rw [if_neg (by simp [h])]
  cases b
  · exact dr_same (key false rfl) (hf rfl)
  · exact dr_same (key true rfl) (ht rfl)
theorem d_splitd {l : List Oper} {s : St} {g : Nat} {p : Prop} [Decidable p] {N : St → Prop} (hv : eget s.env g = .bool (decide p)) (ht : p → DR P ops l (s.ovr g (.bool true)) N) (hf : ¬p → DR P ops l (s.ovr g (.bool false)) N) : DR P ops l s N :=
  d_split hv (fun h => ht (by simpa using h)) (fun h => hf (by simpa using h))
theorem d_splitn {l : List Oper} {s : St} {g : Nat} {p : Prop} [Decidable p] {N : St → Prop} (hv : eget s.env g = .bool (!decide p)) (ht : ¬p → DR P ops l (s.ovr g (.bool true)) N) (hf : p → DR P ops l (s.ovr g (.bool false)) N) : DR P ops l s N :=
  d_split hv (fun h => ht (by simpa using h)) (fun h => hf (by simpa using h))

/-- In a region that draws: a call of a function that only reads. -/
theorem d_call_yield {f : FuncId} {args : List Operand} {args' : List V} {x : V} {tys : Array TypeId} {d : Option Nat} {ty : Nat} {pos : String} {af : Array Edge} {gu : Option (Nat × Bool)} {s : St}
    (hc : FC P f args' [] 3 (fun y _ => y = x)) (hg : gd ops (s.only (gSlots ops ⟨d, .call ⟨.value (.func f), ⟨args⟩, tys⟩, ty, pos, af, gu⟩)) gu = some true)
    (hv : V.rlL (f0 s) (evL (s.only (opSlots ⟨d, .call ⟨.value (.func f), ⟨args⟩, tys⟩, ty, pos, af, gu⟩)) args) = args') (hx : x.rl f01 = x) :
    OYield P ops ⟨d, .call ⟨.value (.func f), ⟨args⟩, tys⟩, ty, pos, af, gu⟩ s x := by
  refine .inl ⟨hg, ?_⟩
  intro C w a hs K Q hK
  have hf0 : f0 (s.only (opSlots ⟨d, .call ⟨.value (.func f), ⟨args⟩, tys⟩, ty, pos, af, gu⟩)) = f0 s := rfl
  rw [← hf0] at hv
  obtain ⟨⟨fn, h1, h2, h3⟩, hcall⟩ := hc
  have e : (execOp a.eval ⟨d, .call ⟨.value (.func f), ⟨args⟩, tys⟩, ty, pos, af, gu⟩).run P w = .ok (.enter f ⟨args.map a.eval⟩) w := by
    simp only [execOp, resolve, Act.eval, Deferred.ofValue, Sem.run_bind, Sem.run_pure, Result.andThen_ok, invoke, callFunc, run_program, h1, h2, h3]
    simp
  unfold Oper.wp
  rw [e, Oper.upon_enter]
  refine (hcall (C.callee (· < w.heap.size)) w ⟨args.map a.eval⟩ rfl (callee_st C w fun b h => h) (callee_args hs hv)).mono ?_
  rintro e w' ⟨v, C2, y, h2, rfl, e2, e3, e4, rfl⟩
  obtain ⟨b1, b2⟩ := back_st hs e4 e2
  have A := callee_agree e4
  refine hK (C.back C2 w) w' v ?_ ⟨Nat.le_refl _, fun _ L _ h => ⟨L, h, .inl rfl⟩, fun _ _ h => h, fun l b _ hl hb => ⟨.inl hb, A.2 b (hs.heap.regs l b hl hb)⟩⟩ b2 b1.heap rfl (fun _ h => h)
  rw [← hx]
  refine Rep.rl (C := C2) ⟨fun l _ => ?_, fun l _ hl => ?_, fun l b _ hl hb => ⟨?_, rfl⟩⟩ e3
  · have := hs.heap.two
    show f01 l < C.nx
    unfold f01; cases Nat.beq l 1 <;> simp <;> omega
  · unfold f01 at hl
    cases hb : Nat.beq l 1
    · rw [hb] at hl; exact absurd hl hs.heap.zero.2.2
    · rw [Nat.beq_eq] at hb; rw [hb]; exact e2.zero.2.1
  · unfold f01 at hl ⊢
    cases hb1 : Nat.beq l 1
    · rw [hb1] at hl; exact absurd hl hs.heap.zero.2.2
    · rw [Nat.beq_eq] at hb1
      subst hb1
      refine .inr ⟨rfl, hb, ?_⟩
      rcases e4.r1 b hb with h | h | h
      · exact absurd h.1 (by omega)
      · rcases h with ⟨u, L, h, _⟩ | ⟨l, h1, h2, _⟩
        · simp [Ctx.callee] at h
        · have : l ≤ 1 := h2; omega
      · exact h

theorem d_call {f : FuncId} {args : List Operand} {args' : List V} {x : V} {tys : Array TypeId} {d : Option Nat} {ty : Nat} {pos : String} {af : Array Edge} {gu : Option (Nat × Bool)} {r : List Oper} {s s1 : St} {N : St → Prop}
    (hc : FC P f args' [] 3 (fun y _ => y = x)) (hg : gd ops (s.only (gSlots ops ⟨d, .call ⟨.value (.func f), ⟨args⟩, tys⟩, ty, pos, af, gu⟩)) gu = some true)
    (hv : V.rlL (f0 s) (evL (s.only (opSlots ⟨d, .call ⟨.value (.func f), ⟨args⟩, tys⟩, ty, pos, af, gu⟩)) args) = args') (hx : x.rl f01 = x) (hp : s.put d x = some s1) (h : DR P ops r s1 N) :
    DR P ops (⟨d, .call ⟨.value (.func f), ⟨args⟩, tys⟩, ty, pos, af, gu⟩ :: r) s N :=
  dr_cons (d_call_yield hc hg hv hx) hp h

theorem at_drawn' {id : Nat} {l : List Oper} {s : St} {K : Exit → St → Prop} (m : Nat) (hm : P.follows .mixedOrders = true) (hok : drawOk l m = true)
    (h : DR P l (l.take m) s (fun s2 => AOps P ⟨l⟩ (l.drop m) s2 (fun s' => K .normal s'))) : AT P (.region id ⟨l⟩ true) s K := at_drawn m hm hok h

end
end Go.Abs
