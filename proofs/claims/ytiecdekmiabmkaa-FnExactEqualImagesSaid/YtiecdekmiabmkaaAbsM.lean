/-
  From a row's reading of the arguments to abstract values; from a contract to a row.
-/
import Derived.Test.YtiecdekmiabmkaaAbsL
import Derived.ProofKit
set_option linter.unusedVariables false
set_option linter.unusedSimpArgs false
namespace Go.Abs

structure Good (C : Ctx) (w : World) : Prop where
  lv : C.lv 0
  nx : 0 < C.nx
  reg : ∀ b, b < w.heap.size → C.reg 0 b

/-- Every reading of this type, N deep at most, is of such a thing, and its cells are represented by this list. -/
def Dec (P : Program) (N : Nat) (t : TypeId) {X : Type} (W : X → Prop) (e : X → List V) : Prop :=
  ∀ (H : Type) (enc : TypeId × Value → H) (C : Ctx) (w : World) (sp : Nat → Bool) (held : Bool) (fuel : Nat) (cs : List Value) (d : DataW H × List MemPlace),
    Good C w → fuel ≤ N → DataW.trod enc P w 0 sp held fuel t cs = some d → ∃ x, W x ∧ RepL C w cs (e x)

theorem Dec.map {P : Program} {N : Nat} {t : TypeId} {X Y : Type} {W : X → Prop} {W' : Y → Prop} {e : X → List V} {e' : Y → List V} (h : Dec P N t W e) (g : X → Y) (hw : ∀ x, W x → W' (g x)) (he : ∀ x, e x = e' (g x)) : Dec P N t W' e' :=
  fun H enc C w sp held fuel cs d hG hf ht => by
    obtain ⟨x, h1, h2⟩ := h H enc C w sp held fuel cs d hG hf ht
    exact ⟨g x, hw x h1, by rw [← he]; exact h2⟩

theorem Dec.le {P : Program} {N N' : Nat} {t : TypeId} {X : Type} {W : X → Prop} {e : X → List V} (h : Dec P N t W e) (hn : N' ≤ N) : Dec P N' t W e :=
  fun H enc C w sp held fuel cs d hG hf ht => h H enc C w sp held fuel cs d hG (Nat.le_trans hf hn) ht

section
variable {P : Program} {N : Nat} {t : TypeId}

theorem dec_int {k : IntKind} (ht : P.underlying t = some (.int k)) : Dec P N t (fun n : Int => k.min ≤ n ∧ n ≤ k.max) (fun n => [.int k n]) :=
  fun H enc C w sp held fuel cs d _ _ h => by
    obtain ⟨n, rfl, _, h2⟩ := DataW.trod_int ht h
    simp only [Lit.wf, Bool.and_eq_true, decide_eq_true_eq] at h2
    exact ⟨n, h2, .cons (.int k n) .nil⟩

theorem dec_bool (ht : P.underlying t = some .bool) : Dec P N t (fun _ : Bool => True) (fun b => [.bool b]) :=
  fun H enc C w sp held fuel cs d _ _ h => by
    obtain ⟨b, rfl, _⟩ := DataW.trod_bool ht h
    exact ⟨b, trivial, .cons (.bool b) .nil⟩

theorem dec_str (ht : P.underlying t = some .string) : Dec P N t (fun l : List UInt8 => l.length ≤ 9223372036854775807) (fun l => [.str l]) :=
  fun H enc C w sp held fuel cs d _ _ h => by
    obtain ⟨s, rfl, _, h2⟩ := DataW.trod_string ht h
    refine ⟨s.data.toList, by show s.data.toList.length ≤ _; rw [Array.length_toList]; exact h2, .cons ?_ .nil⟩
    have : s = ⟨s.data.toList.toArray⟩ := by simp
    rw [this]
    exact .str _

theorem choose_list {α : Type} {p : Nat → α → Prop} : ∀ n : Nat, (∀ i, i < n → ∃ x, p i x) → ∃ l : List α, l.length = n ∧ ∀ i x, l[i]? = some x → p i x
  | 0, _ => ⟨[], rfl, fun i x h => by simp at h⟩
  | n + 1, h => by
    obtain ⟨l, h1, h2⟩ := choose_list n (fun i hi => h i (by omega))
    obtain ⟨x, hx⟩ := h n (by omega)
    refine ⟨l ++ [x], by simp [h1], fun i y hy => ?_⟩
    rcases Nat.lt_or_ge i n with hi | hi
    · rw [List.getElem?_append_left (by omega)] at hy
      exact h2 i y hy
    · rw [List.getElem?_append_right (by omega)] at hy
      have hlt := (List.getElem?_eq_some_iff.1 hy).1
      simp at hlt
      have : i = n := by omega
      subst this
      rw [h1, Nat.sub_self] at hy
      simp at hy
      subst hy
      exact hx

theorem cells_get {w : World} {a : Addr} {n : Nat} {vs : List Value} (h : w.cells? 0 a n = some vs) : vs.length = n ∧ ∀ j v, vs[j]? = some v → w.cell? (a.add j) = some v := by
  unfold World.cells? at h
  rw [if_pos (Nat.zero_le _)] at h
  have h1 := mapM_some_length h
  refine ⟨by simpa using h1, fun j v hj => ?_⟩
  have hlt : j < n := by
    have := (List.getElem?_eq_some_iff.1 hj).1
    simpa [h1] using this
  have := mapM_some_get h j j (by simp [hlt])
  rw [this, hj]

theorem cell_spot {w : World} {a : Addr} {v : Value} (h : w.cell? a = some v) : a.spot = none := by
  cases hs : a.spot with
  | none => rfl
  | some q =>
    unfold World.cell? at h
    split at h
    · rw [hs] at h; simp at h
    · simp at h

theorem add_of_spot {a : Addr} (h : a.spot = none) (n : Nat) : a.add n = ⟨a.block, a.off + n, none⟩ := by
  obtain ⟨b, o, s⟩ := a
  simp only at h
  subst h
  unfold Addr.add
  split
  · rename_i hn; subst hn; rfl
  · rfl

theorem dec_slice {e : TypeId} {sz : Nat} {X : Type} {W : X → Prop} {en : X → List V} (ht : P.underlying t = some (.slice e)) (hs : P.cellsOf e = sz) (hpos : 0 < sz) (he : Dec P (N - 1) e W en) :
    Dec P N t (fun xs : List X => xs.length ≤ 9223372036854775807 ∧ ∀ x ∈ xs, W x) (fun xs => [.psl 0 sz (xs.map en)]) :=
  fun H enc C w sp held fuel cs d hG hf h => by
    rcases DataW.trod_slice ht h with ⟨rfl, _⟩ | ⟨a, len, cap, elems, rest, n, hfu, rfl, _, _, hlc, hcm, hlen, hel, _⟩
    · exact ⟨[], ⟨by simp, by simp⟩, .cons (.psl0 none 0 0 sz) .nil⟩
    · rw [hs] at hel
      have key : ∀ i, i < len → ∃ q : List Value × X, w.cells? 0 (a.add (i * sz)) sz = some q.1 ∧ W q.2 ∧ RepL C w q.1 (en q.2) := fun i hi => by
        have h1 := hel i hi
        have h2 : ∃ y, elems[i]? = some y := ⟨elems[i]'(by omega), List.getElem?_eq_getElem (by omega)⟩
        obtain ⟨y, h2⟩ := h2
        rw [h2, Option.bind_eq_some_iff] at h1
        obtain ⟨vs, h3, h4⟩ := h1
        obtain ⟨x, h5, h6⟩ := he H enc C w sp held n vs y hG (by omega) h4
        exact ⟨(vs, x), h3, h5, h6⟩
      obtain ⟨l, l1, l2⟩ := choose_list len key
      refine ⟨l.map (·.2), ⟨?_, fun x hx => ?_⟩, .cons ?_ .nil⟩
      · simp [maxLen] at hcm ⊢; omega
      · obtain ⟨q, hq, rfl⟩ := List.mem_map.1 hx
        obtain ⟨i, hi⟩ := List.getElem?_of_mem hq
        exact (l2 i q hi).2.1
      · rcases Nat.eq_zero_or_pos len with h0 | h0
        · have : l = [] := List.eq_nil_of_length_eq_zero (by omega)
          subst this
          rw [h0]
          exact .psl0 (some a) cap 0 sz
        · obtain ⟨q0, hq0⟩ : ∃ q, l[0]? = some q := ⟨l[0]'(by omega), List.getElem?_eq_getElem (by omega)⟩
          obtain ⟨c0, _⟩ := l2 0 q0 hq0
          obtain ⟨n0, g0⟩ := cells_get c0
          obtain ⟨v0, hv0⟩ : ∃ v, q0.1[0]? = some v := ⟨q0.1[0]'(by omega), List.getElem?_eq_getElem (by omega)⟩
          have hcell := g0 0 v0 hv0
          have hz : (a.add (0 * sz)).add 0 = a := by simp [Addr.add]
          rw [hz] at hcell
          have hsp := cell_spot hcell
          have hblk := World.block_lt_of_cell? w a hcell
          have ha : a = ⟨a.block, a.off, none⟩ := by
            obtain ⟨b, o, s⟩ := a
            simp only at hsp
            subst hsp; rfl
          rw [ha]
          refine .psl (fun i => (l.getD i ([], q0.2)).1) hG.lv hG.nx (hG.reg _ hblk) (by simp [l1]) hlc (fun i row hi => ?_) (fun i row hi => ?_)
          all_goals
            obtain ⟨x, hx, rfl⟩ : ∃ x, (l.map (·.2))[i]? = some x ∧ en x = row := by
              rw [List.getElem?_map, Option.map_eq_some_iff] at hi
              exact hi
            obtain ⟨q, hq, rfl⟩ : ∃ q, l[i]? = some q ∧ q.2 = x := by
              rw [List.getElem?_map, Option.map_eq_some_iff] at hx
              exact hx
            have hq' : l.getD i ([], q0.2) = q := by simp [List.getD, hq]
            rw [hq']
            obtain ⟨p1, p2, p3⟩ := l2 i q hq
          · obtain ⟨m1, m2⟩ := cells_get p1
            refine ⟨m1, fun j v hj => ?_⟩
            have := m2 j v hj
            rw [add_of_spot hsp, add_of_spot rfl] at this
            exact this
          · exact p3

/-- The fields of a struct, from the cell 'off' on. -/
def DecF (P : Program) (N : Nat) (fs : List Field) (off : Nat) {X : Type} (W : X → Prop) (e : X → List V) : Prop :=
  ∀ (H : Type) (enc : TypeId × Value → H) (C : Ctx) (w : World) (sp : Nat → Bool) (held : Bool) (fuel : Nat) (cs : List Value),
    Good C w → fuel ≤ N → (∀ f ∈ fs, ∃ d, DataW.trod enc P w 0 sp held fuel f.type ((cs.drop f.offset).take (P.cellsOf f.type)) = some d) → ∃ x, W x ∧ ∃ k, RepL C w ((cs.drop off).take k) (e x) ∧ k = fs.foldl (fun n f => n + P.cellsOf f.type) 0

theorem foldl_add (P : Program) : ∀ (fs : List Field) (n : Nat), fs.foldl (fun n f => n + P.cellsOf f.type) n = n + fs.foldl (fun n f => n + P.cellsOf f.type) 0
  | [], n => rfl
  | f :: fs, n => by
    simp only [List.foldl_cons]
    rw [foldl_add P fs (n + _), foldl_add P fs (0 + _)]
    omega

theorem decF_nil {off : Nat} : DecF P N [] off (fun _ : Unit => True) (fun _ => []) :=
  fun H enc C w sp held fuel cs _ _ _ => ⟨(), trivial, 0, by simpa using RepL.nil, rfl⟩

theorem decF_one {f : Field} {off : Nat} {X : Type} {W : X → Prop} {e : X → List V} (ho : f.offset = off) (h : Dec P N f.type W e) : DecF P N [f] off W e :=
  fun H enc C w sp held fuel cs hG hf hd => by
    obtain ⟨d, hd⟩ := hd f (by simp)
    obtain ⟨x, h1, h2⟩ := h H enc C w sp held fuel _ d hG hf hd
    exact ⟨x, h1, P.cellsOf f.type, by rw [← ho]; exact h2, by simp⟩

theorem decF_cons {f : Field} {fs : List Field} {off n : Nat} {X Y : Type} {W : X → Prop} {e : X → List V} {W' : Y → Prop} {e' : Y → List V} (ho : f.offset = off) (hn : P.cellsOf f.type = n) (h : Dec P N f.type W e) (h' : DecF P N fs (off + n) W' e') :
    DecF P N (f :: fs) off (fun p : X × Y => W p.1 ∧ W' p.2) (fun p => e p.1 ++ e' p.2) :=
  fun H enc C w sp held fuel cs hG hf hd => by
    obtain ⟨d, hd0⟩ := hd f (by simp)
    obtain ⟨x, h1, h2⟩ := h H enc C w sp held fuel _ d hG hf hd0
    obtain ⟨y, h3, k, h4, h5⟩ := h' H enc C w sp held fuel cs hG hf (fun g hg => hd g (by simp [hg]))
    refine ⟨(x, y), ⟨h1, h3⟩, n + k, ?_, ?_⟩
    · rw [ho, hn] at h2
      have := h2.append h4
      have e1 : (cs.drop off).take (n + k) = (cs.drop off).take n ++ (cs.drop (off + n)).take k := by
        rw [List.take_add, List.drop_drop]
      rw [e1]
      exact this
    · simp only [List.foldl_cons]
      rw [foldl_add, ← h5, hn]
      omega

theorem dec_struct {fs : Array Field} {X : Type} {W : X → Prop} {e : X → List V} (ht : P.underlying t = some (.struct fs)) (hsz : P.cellsOf t = fs.toList.foldl (fun n f => n + P.cellsOf f.type) 0) (h : DecF P (N - 1) fs.toList 0 W e) : Dec P N t W e :=
  fun H enc C w sp held fuel cs d hG hf hd => by
    obtain ⟨xs, n, rfl, _, h2, h3, h4⟩ := DataW.trod_struct ht hd
    obtain ⟨x, h5, k, h6, h7⟩ := h H enc C w sp held n cs hG (by omega) (fun f hf' => by
      obtain ⟨i, hi⟩ := List.getElem?_of_mem hf'
      have hi' : fs[i]? = some f := by simpa using hi
      have hlt := (Array.getElem?_eq_some_iff.1 hi').1
      exact ⟨xs[i]'(by omega), by rw [h4 i f hi']; exact List.getElem?_eq_getElem (by omega)⟩)
    refine ⟨x, h5, ?_⟩
    rw [List.drop_zero, List.take_of_length_le (by omega)] at h6
    exact h6

/-! ### One argument -/
/-- As 'Dec', for a value as it is handed over. -/
def DecA (P : Program) (t : TypeId) {X : Type} (W : X → Prop) (e : X → V) : Prop :=
  ∀ (H : Type) (enc : TypeId × Value → H) (C : Ctx) (w : World) (base : Nat) (v : Value) (d : DataW H) (ps : List MemPlace), Good C w → Value.okWide P w .any base t v → DataW.Trod enc P w 0 (fun _ => true) true t v d ps → ∃ x, W x ∧ Rep C w v (e x)

theorem cells_cell {P : Program} {w : World} {base : Nat} {t : TypeId} {v u : Value} (h : Value.okWide P w .any base t v) (ht : ∀ fs, P.underlying t ≠ some (.struct fs)) (ht' : ∀ n e, P.underlying t ≠ some (.array n e)) (hc : v.cells.toList = [u]) : v = u := by
  cases v <;> simp_all [Value.cells]
  unfold Value.okWide at h
  split at h
  · rename_i fs hu; exact (ht fs hu).elim
  · rename_i n e hu; exact (ht' n e hu).elim
  · unfold Cell.okWide at h
    split at h <;> simp_all [Cell.ok]

theorem decA_cell {X : Type} {W : X → Prop} {e : X → V} (h : ∀ N, Dec P N t W (fun x => [e x])) (ht : ∀ fs, P.underlying t ≠ some (.struct fs)) (ht' : ∀ n e, P.underlying t ≠ some (.array n e)) : DecA P t W e :=
  fun H enc C w base v d ps hG hv hd => by
    obtain ⟨fuel, hd⟩ := hd
    obtain ⟨x, h1, h2⟩ := h fuel H enc C w _ _ fuel _ _ hG (Nat.le_refl _) hd
    generalize hcs : v.cells.toList = cs at h2
    cases h2 with
    | cons a b =>
      cases b
      have := cells_cell hv ht ht' hcs
      subst this
      exact ⟨x, h1, a⟩

theorem decA_struct {fs : Array Field} {X : Type} {W : X → Prop} {e : X → List V} (ht : P.underlying t = some (.struct fs)) (h : ∀ N, Dec P N t W e) : DecA P t W (fun x => .agg (e x)) :=
  fun H enc C w base v d ps hG hv hd => by
    obtain ⟨fuel, hd⟩ := hd
    obtain ⟨x, h1, h2⟩ := h fuel H enc C w _ _ fuel _ _ hG (Nat.le_refl _) hd
    unfold Value.okWide at hv
    rw [ht] at hv
    obtain ⟨cs, rfl, _⟩ := hv
    exact ⟨x, h1, .agg h2⟩

end

/-! ### The row -/
def Ctx.start (w : World) : Ctx := { reg := fun l b => l = 0 ∧ b < w.heap.size, lv := fun l => l ≤ 1, loc := fun _ => none, nx := 3 }

theorem start_good (w : World) : Good (Ctx.start w) w := ⟨Nat.zero_le _, by show 0 < 3; omega, fun b h => ⟨rfl, h⟩⟩

open Go.ChangeShapes in
theorem post_true {H : Type} {enc : TypeId × Value → H} {P : Program} {f : Func} {s : ChangeSpec} {apart fresh handsOn : Bool} {W W' : World} {args : Array Value} {v : Value} {ds : List (DataW H)} {before : List MemPlace} {tb : TypeId}
    (hW : DataW.Whole enc P f.params.toList s.vars apart W args.toList ds [] before) (hvars : s.vars = [])
    (hl : laidOutB P = true) (hr : f.params.toList.all (fun t => P.readableRec t && decide (t < P.types.size)) = true)
    (hrt : f.resultTypes = #[tb]) (htb : P.underlying tb = some .bool)
    (hs : s.fn H (ds ++ []) = { results := [.lit (.bool true)], args := ds }) (A : Agree W W') (hv : v = .bool true) :
    s.post enc P f apart fresh handsOn false W args v W' := by
  subst hv
  obtain ⟨p, q, hA, hV, rfl, hfz, hnd⟩ := hW
  rw [hvars] at hV
  obtain ⟨_, rfl⟩ := trodVars_none hV
  have hres : ∀ (b : Nat) (sp : Nat → Bool) (hd : Bool), DataW.TrodAll enc P W' b sp hd f.resultTypes.toList ((Value.bool true).resultList f.resultTypes.size) [.lit (.bool true)] [] := fun b sp hd => by
    rw [hrt]
    exact trodAll_mk1 (RowKit.shut_bool htb true)
  have hargs : ∀ (ts : List TypeId) (vs : List Value) (ds : List (DataW H)) (p : List MemPlace), ts.all (fun t => P.readableRec t && decide (t < P.types.size)) = true → DataW.TrodAll enc P W 0 (fun _ => true) true ts vs ds p →
      DataW.TrodAll enc P W' 0 (fun b => decide (b < W.heap.size)) true ts vs ds p := by
    intro ts
    induction ts with
    | nil =>
      intro vs ds p _ h
      obtain ⟨rfl, rfl, rfl⟩ := trodAll_nil h
      exact rfl
    | cons t ts ih =>
      intro vs ds p hr h
      obtain ⟨v, vs1, d, ds1, a, b, rfl, rfl, rfl, h1, h2⟩ := trodAll_cons h
      simp only [List.all_cons, Bool.and_eq_true, decide_eq_true_eq] at hr
      have hlt : ∀ x ∈ a, x.block < W.heap.size := fun x hx => by
        obtain ⟨n, hn⟩ := h1
        exact DataW.trod_lt _ _ _ _ hn x hx
      refine ⟨a, b, ?_, ih vs1 ds1 b (by simpa using hr.2) h2, rfl⟩
      refine WideElems.Trod_stays hl hr.1.1 hr.1.2 h1 (fun x hx => ?_) (fun x hx => by simpa using hlt x hx)
      have := A.heap x.block (hlt x hx)
      cases x with
      | cell b o => exact cell_of_block (by simpa [MemPlace.block] using this) o
      | map b => simpa [MemPlace.block, World.sameAt] using this
  refine ⟨ds, [], p ++ [], [], p, [], ⟨p, [], hA, hvars ▸ rfl, rfl, hfz, hnd⟩, ?_, ?_, ?_, ?_, fun h => by cases h⟩
  · rw [hs]; exact hres _ _ _
  · rw [hs]; exact hargs _ _ _ _ hr hA
  · rw [hs, hvars]; exact rfl
  · refine ⟨A.os, A.out, fun i hi => ?_⟩
    rw [A.heap i hi]
    split
    · rename_i h1 h2
      rw [h1] at h2
      simp only [Option.some.injEq, Obj.cells.injEq] at h2
      obtain ⟨rfl, rfl, rfl⟩ := h2
      exact ⟨rfl, rfl, rfl, fun _ _ => rfl⟩
    · rename_i h1 h2
      rw [h1] at h2
      simp only [Option.some.injEq, Obj.map.injEq] at h2
      exact .inr ⟨h2.1.symm, h2.2.symm⟩
    · rfl

/-- What a law's contract gives for its row. -/
theorem law_calls {P : Program} {f : FuncId} {xs : List V} {W : World} {args : Array Value} (hc : FC P f xs [] 3 (fun x _ => x = .bool true)) (hargs : RepL (Ctx.start W) W args.toList xs) :
    Calls P f args W (fun e W' => ∃ v, e = .returned v ∧ v = .bool true ∧ Agree W W') := by
  refine (hc.2 (Ctx.start W) W args rfl (callee_st (Ctx.start W) W (fun b h => h)) hargs).mono ?_
  rintro e W' ⟨v, C', r, h', rfl, _, h3, h4, rfl⟩
  refine ⟨v, rfl, ?_, callee_agree (C := Ctx.start W) (G := (· < W.heap.size)) h4⟩
  cases h3
  rfl

end Go.Abs
