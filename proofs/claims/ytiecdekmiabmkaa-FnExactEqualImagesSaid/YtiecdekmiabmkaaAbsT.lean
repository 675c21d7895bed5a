/-
  append.
-/
import Derived.Test.YtiecdekmiabmkaaAbsS
import Derived.ArgAppend
set_option linter.unusedVariables false
set_option linter.unusedSimpArgs false
namespace Go.Abs

/-- What is appended: so many rows, whose cells the machine reads off. -/
structure Src (P : Program) (C : Ctx) (w : World) (sz : Nat) (ys : List (List V)) (x : Value) (news : List Value) : Prop where
  len : ∀ w', (Builtin.lenOf x).run P w' = .ok ys.length w'
  cells : ∀ w', Agree w w' → (Builtin.firstCells sz ys.length x).run P w' = .ok news.toArray w'
  size : news.length = ys.length * sz
  rows : RowsIn C w ⟨news⟩ sz ys
  one : ∀ u ∈ news, u.oneCell' = true

section
variable {P : Program} {T : List TI} {s : St} {C : Ctx} {w : World} {a : Act}

theorem flat_len {sz : Nat} : ∀ (vals : List (List Value)), (∀ vs ∈ vals, vs.length = sz) → vals.flatten.length = vals.length * sz
  | [], _ => by simp
  | x :: r, h => by rw [List.flatten_cons, List.length_append, h x (by simp), flat_len r (fun vs hv => h vs (by simp [hv])), List.length_cons, Nat.succ_mul, Nat.add_comm]
theorem flat_at {sz : Nat} : ∀ (vals : List (List Value)), (∀ vs ∈ vals, vs.length = sz) → ∀ (k : Nat) (u : Value), vals.flatten[k]? = some u → ∃ i j vs, vals[i]? = some vs ∧ vs[j]? = some u ∧ k = i * sz + j
  | [], _, k, u, h => by simp at h
  | x :: r, hall, k, u, h => by
    have hx := hall x (by simp)
    rw [List.flatten_cons] at h
    by_cases hk : k < x.length
    · rw [List.getElem?_append_left hk] at h
      exact ⟨0, k, x, rfl, h, by simp⟩
    · rw [List.getElem?_append_right (by omega)] at h
      obtain ⟨i, j, vs, h1, h2, h3⟩ := flat_at r (fun vs hv => hall vs (by simp [hv])) _ u h
      exact ⟨i + 1, j, vs, by simpa using h1, h2, by rw [Nat.succ_mul]; omega⟩

/-- From cells that lie in memory. -/
theorem src_cells (hs : StRep C w a s) {sz b off len cap : Nat} {ys : List (List V)} {vals : Nat → List Value} (hlen : len = ys.length)
    (hc : ∀ i row, ys[i]? = some row → (vals i).length = sz ∧ (∀ j v, (vals i)[j]? = some v → w.cell? ⟨b, off + i * sz + j, none⟩ = some v) ∧ RepL C w (vals i) row)
    (hone : ∀ row ∈ ys, row.all (oneV s) = true) : ∃ news, Src P C w sz ys (.slice (some ⟨b, off, none⟩) len cap) news := by
  have hget : ∀ i row, ys[i]? = some row → ((List.range ys.length).map vals)[i]? = some (vals i) := fun i row hi => by
    have hlt := (List.getElem?_eq_some_iff.1 hi).1
    rw [List.getElem?_map, List.getElem?_range hlt]; rfl
  have hback : ∀ i vs, ((List.range ys.length).map vals)[i]? = some vs → ∃ row, ys[i]? = some row ∧ vs = vals i := fun i vs hi => by
    have hlt : i < ys.length := by simpa using (List.getElem?_eq_some_iff.1 hi).1
    rw [List.getElem?_map, List.getElem?_range hlt] at hi
    simp at hi
    exact ⟨ys[i], List.getElem?_eq_getElem hlt, hi.symm⟩
  have hall : ∀ vs ∈ (List.range ys.length).map vals, vs.length = sz := fun vs hv => by
    obtain ⟨i, hi⟩ := List.getElem?_of_mem hv
    obtain ⟨row, h1, rfl⟩ := hback i vs hi
    exact (hc i row h1).1
  have hfl := flat_len _ hall
  rw [List.length_map, List.length_range] at hfl
  refine ⟨((List.range ys.length).map vals).flatten, fun w' => by simp [Builtin.lenOf, hlen], fun w' hw => ?_, hfl, ⟨vals, fun i row hi => ⟨(hc i row hi).1, fun j v hj => ?_, (hc i row hi).2.2⟩⟩, fun u hu => ?_⟩
  · refine run_firstCells_some w' sz ys.length ⟨b, off, none⟩ len cap _ hfl fun k u hk => ?_
    obtain ⟨i, j, vs, h1, h2, rfl⟩ := flat_at _ hall k u hk
    obtain ⟨row, h3, rfl⟩ := hback i vs h1
    rw [addr_add, ← Nat.add_assoc]
    exact hw.cell ((hc i row h3).2.1 j u h2)
  · rw [List.getElem?_toArray]
    exact flatten_get _ hall i j _ v (hget i row hi) hj
  · obtain ⟨k, hk⟩ := List.getElem?_of_mem hu
    obtain ⟨i, j, vs, h1, h2, rfl⟩ := flat_at _ hall k u hk
    obtain ⟨row, h3, rfl⟩ := hback i vs h1
    exact all_one hs (hc i row h3).2.2 (hone row (List.mem_of_getElem? h3)) u (List.mem_of_getElem? h2)

theorem src_none (C : Ctx) (w : World) (sz : Nat) (ao : Option Addr) (cap : Nat) : Src P C w sz [] (.slice ao 0 cap) [] := by
  refine ⟨fun w' => by simp [Builtin.lenOf], fun w' _ => ?_, by simp, ⟨fun _ => [], fun i row hi => by simp at hi⟩, fun u hu => by simp at hu⟩
  cases ao with
  | none => simp [Builtin.firstCells]
  | some ad => exact run_firstCells_some w' sz 0 ad 0 cap [] (by simp) (fun j v h => by simp at h)

theorem src_psl (hs : StRep C w a s) {l sz : Nat} {ys : List (List V)} {y : Operand} (hy : ev s y = .psl l sz ys) (hl : s.live l = true) (hone : ∀ row ∈ ys, row.all (oneV s) = true) : ∃ news, Src P C w sz ys (a.eval y) news := by
  have hv := hs.ev y; rw [hy] at hv
  generalize a.eval y = v at hv
  cases hv with
  | psl0 ao cap => exact ⟨[], src_none C w sz ao cap⟩
  | psl vals h1 h2 h3 hlen _ h4 h5 => exact src_cells hs hlen (fun i row hi => ⟨(h4 i row hi).1, (h4 i row hi).2, h5 i row hi⟩) hone
  | psld v h1 _ => exact absurd (hs.live hl) h1

theorem src_hsl (hs : StRep C w a s) {u n sz : Nat} {ys : List (List V)} {y : Operand} (hy : ev s y = .hsl u 0 n) (hu : hget s.heap u = some ⟨sz, ys⟩) (hn : n = ys.length) (hone : ∀ row ∈ ys, row.all (oneV s) = true) : ∃ news, Src P C w sz ys (a.eval y) news := by
  have hv := hs.ev y; rw [hy] at hv
  generalize a.eval y = v at hv
  obtain ⟨L, h1, h2, h3, h4, h5⟩ := hsl_spec hs.heap hv hu (by show 0 + n = ys.length; omega)
  unfold HSL at h5
  cases hb : L.blk with
  | none =>
    rw [hb] at h5; simp only at h5
    unfold Blk at h4; rw [hb] at h4
    have : ys = [] := h4.1
    subst this
    rw [h5]
    exact ⟨[], src_none C w sz none 0⟩
  | some b =>
    rw [hb] at h5; simp only at h5
    obtain ⟨cs, el, fz, g1, g2, g3, g4, vals, g5⟩ := of_blk hb h4
    rw [h5, Nat.zero_mul]
    refine src_cells (vals := vals) hs hn (fun i row hi => ?_) hone
    have h2' : L.sz = sz := h2
    rw [← h2']
    exact g5 i row hi

/-- The bytes of a text, as rows. -/
def byteRow (b : UInt8) : List V := [.int .u8 b.toNat]
theorem src_str (hs : StRep C w a s) {l : List UInt8} {y : Operand} (hy : ev s y = .str l) : ∃ news, Src P C w 1 (l.map byteRow) (a.eval y) news := by
  have hv := hs.ev y; rw [hy] at hv
  generalize a.eval y = v at hv
  cases hv
  refine ⟨l.map fun b => .int .u8 b.toNat, fun w' => by simp [Builtin.lenOf, bytes_size], fun w' _ => ?_, by simp, ⟨fun i => [.int .u8 ((l.getD i 0).toNat : Nat)], fun i row hi => ?_⟩, fun u hu => ?_⟩
  · have e : (⟨l.toArray⟩ : ByteArray).extract 0 l.length = ⟨l.toArray⟩ := by
      have : l.length = (⟨l.toArray⟩ : ByteArray).size := (bytes_size l).symm
      rw [this, ByteArray.extract_zero_size]
    simp [Builtin.firstCells, e]
  · rw [List.getElem?_map] at hi
    cases hb : l[i]? with
    | none => simp [hb] at hi
    | some b =>
      simp [hb] at hi
      subst hi
      have hd : l.getD i 0 = b := by simp [List.getD, hb]
      refine ⟨rfl, fun j v hj => ?_, ?_⟩
      · cases j with
        | zero =>
          simp at hj
          subst hj
          simp [hb, hd]
        | succ j => simp at hj
      · show RepL C w [Value.int .u8 ((l.getD i 0).toNat : Nat)] (byteRow b)
        rw [hd]; exact .cons (.int _ _) .nil
  · obtain ⟨b, _, rfl⟩ := List.mem_map.1 hu
    rfl


theorem rowsIn_take {cs : List Value} {sz : Nat} {rows : List (List V)} (h : RowsIn C w ⟨cs⟩ sz rows) : RowsIn C w ⟨cs.take (rows.length * sz)⟩ sz rows := by
  obtain ⟨vals, hv⟩ := h
  refine ⟨vals, fun i row hi => ⟨(hv i row hi).1, fun j v hj => ?_, (hv i row hi).2.2⟩⟩
  have h1 := (hv i row hi).2.1 j v hj
  have hjl : j < sz := by
    have := (List.getElem?_eq_some_iff.1 hj).1
    rw [(hv i row hi).1] at this; exact this
  have hil := (List.getElem?_eq_some_iff.1 hi).1
  rw [List.getElem?_toArray] at h1 ⊢
  rw [List.getElem?_take, if_pos]
  · exact h1
  · have : (i + 1) * sz ≤ rows.length * sz := Nat.mul_le_mul_right _ hil
    rw [Nat.succ_mul] at this
    omega

theorem agree_drew (w : World) : Agree w w.drew := ⟨Nat.le_refl _, fun _ _ => rfl, rfl, rfl⟩

/-- The three ways that append goes. -/
theorem run_append_room {t tx ty e sz : Nat} (hu : P.underlying t = some (.slice e)) {i : TypeInfo} (hi : ∀ w, (typeInfo e).run P w = .ok i w) (hsz : i.size = sz) (hx : ∃ dsc, P.underlying tx = some dsc ∧ (∀ k, dsc ≠ .int k))
    {b n cap : Nat} {el : TypeId} {fz : Nat × Nat} {cells : Array Value} {ys : List (List V)} {x : Value} {news : List Value} (hs : Src P C w sz ys x news) (hb : w.heap[b]? = some (.cells cells el fz)) (hfz : ∀ o, o < cells.size → ¬ (fz.1 ≤ o ∧ o < fz.2))
    (hcap : cells.size = cap * sz) (hroom : n + ys.length ≤ cap) :
    (Builtin.append_ #[t, tx] ty #[.slice (some ⟨b, 0, none⟩) n cap, x]).run P w = .ok (.slice (some ⟨b, 0, none⟩) (n + ys.length) cap) (w.setRow b (cells.toList.take (n * sz) ++ news ++ cells.toList.drop (n * sz + news.length)).toArray) := by
  obtain ⟨dsc, hd1, hd2⟩ := hx
  have hle : n * sz + 0 + news.length ≤ cells.size := by
    rw [hs.size, hcap, Nat.add_zero, ← Nat.add_mul]; exact Nat.mul_le_mul_right _ hroom
  have hst := run_storeCells_fz (P := P) b (n * sz) el fz news 0 cells w hb hfz hle hs.one
  simp only [Nat.add_zero] at hst
  have hni : (match dsc with | .int _ => true | _ => false) = false := by
    cases dsc <;> first | rfl | exact absurd rfl (hd2 _)
  have hszr : (sizeOf e).run P w = .ok sz w := by simp [sizeOf, hi, hsz]
  simp [Builtin.append_, run_underlying hu, run_underlying hd1, hszr, hni, hs.len, hroom, hs.cells w (Agree.refl w), addr_add, hst]

theorem run_append_more {t tx ty e sz bts : Nat} (hu : P.underlying t = some (.slice e)) {i : TypeInfo} (hi : ∀ w, (typeInfo e).run P w = .ok i w) (hsz : i.size = sz) (hbt : i.bytes = bts) {z : Value} (hz : ∀ w, (zeroValue e).run P w = .ok z w) (hx : ∃ dsc, P.underlying tx = some dsc ∧ (∀ k, dsc ≠ .int k))
    {ao : Option Addr} {n cap : Nat} {olds : List Value} (hold : ∀ w', Agree w w' → (Builtin.firstCells sz n (.slice ao n cap)).run P w' = .ok olds.toArray w') {ys : List (List V)} {x : Value} {news : List Value} (hs : Src P C w sz ys x news) (hroom : ¬ n + ys.length ≤ cap)
    (hb : (n + ys.length) * bts ≤ 140737488355328) (hb2 : n + ys.length ≤ 9223372036854775807) :
    (Builtin.append_ #[t, tx] ty #[.slice ao n cap, x]).run P w = .ok (.slice (some ⟨w.heap.size, 0, none⟩) (n + ys.length) (grownCap w (n + ys.length) cap e))
      (w.drew.alloc (.cells (olds.toArray ++ news.toArray ++ Builtin.zeroCells z.cells (grownCap w (n + ys.length) cap e - (n + ys.length))) e)) := by
  obtain ⟨dsc, hd1, hd2⟩ := hx
  have hni : (match dsc with | .int _ => true | _ => false) = false := by
    cases dsc <;> first | rfl | exact absurd rfl (hd2 _)
  have hszr : ∀ w, (sizeOf e).run P w = .ok sz w := fun w => by simp [sizeOf, hi, hsz]
  have h63' : ¬ (9223372036854775807 < ((n : Int) + (ys.length : Int))) := by omega
  have hfit := growslice_fits (old := cap) (need := n + ys.length) (bytes := bts) (by omega) hb
  have h48' : ¬ (281474976710656 < Builtin.nextslicecap (n + ys.length) cap * i.bytes) := by rw [hbt]; omega
  have hf := hs.cells w.drew (agree_drew w)
  have hfo := hold w.drew (agree_drew w)
  simp [Builtin.append_, run_underlying hu, run_underlying hd1, hszr, hi, hz, hni, hs.len, hroom, h63', h48', Question.forced, hf, hfo, newRow, grownCap]
  congr 2
  apply Array.ext'
  simp


def notIntT (T : List TI) (t : Nat) : Bool := match T[t]? with
  | some ⟨.slice _, _, _, _, _⟩ => true
  | some ⟨.string, _, _, _, _⟩ => true
  | _ => false
theorem notIntT_spec {t : Nat} (hT : TabOK P T) (h : notIntT T t = true) : ∃ dsc, P.underlying t = some dsc ∧ ∀ k, dsc ≠ .int k := by
  unfold notIntT at h
  split at h
  · rename_i e _ _ _ _ ht
    exact ⟨_, hT.slice ht rfl, fun k hk => by cases hk⟩
  · rename_i ht
    exact ⟨_, hT.string ht rfl, fun k hk => by cases hk⟩
  · simp at h

theorem run_append_zero {t tx ty e sz : Nat} (hu : P.underlying t = some (.slice e)) {i : TypeInfo} (hi : ∀ w, (typeInfo e).run P w = .ok i w) (hsz : i.size = sz) (hx : ∃ dsc, P.underlying tx = some dsc ∧ (∀ k, dsc ≠ .int k))
    {x : Value} {news : List Value} (hs : Src P C w sz [] x news) : (Builtin.append_ #[t, tx] ty #[.slice none 0 0, x]).run P w = .ok (.slice none 0 0) w := by
  obtain ⟨dsc, hd1, hd2⟩ := hx
  have hni : (match dsc with | .int _ => true | _ => false) = false := by
    cases dsc <;> first | rfl | exact absurd rfl (hd2 _)
  have hszr : ∀ w, (sizeOf e).run P w = .ok sz w := fun w => by simp [sizeOf, hi, hsz]
  have hl := hs.len w
  have hc := hs.cells w (Agree.refl w)
  simp only [List.length_nil] at hl hc
  simp [Builtin.append_, run_underlying hu, run_underlying hd1, hszr, hni, hl, hc]

theorem hst_dup {h : List (Nat × HB)} (hs : HSt C w h) {u : Nat} {hb : HB} (hu : hget h u = some hb) : HSt C w ((u, hb) :: h) := by
  have hg : ∀ x, hget ((u, hb) :: h) x = hget h x := fun x => by
    simp only [hget, Bool.cond_eq_ite]
    split
    · rename_i he; rw [Nat.beq_eq] at he; subst he; exact hu.symm
    · rfl
  exact ⟨fun x hx => hs.dom x (by rwa [hg] at hx), fun x q hx => hs.ent x q (by rwa [hg] at hx), hs.lt, hs.inj, hs.own, hs.regs, hs.lvs, hs.rdis, hs.zero, hs.two⟩

/-- APPEND to an own row: the step itself. -/
theorem append_core {ops : Array Oper} {d : Option Nat} {ty : Nat} {pos : String} {af : Array Edge} {gu : Option (Nat × Bool)} {r : List Oper} {K : St → Prop} {s1 : St}
    {t tx e u n : Nat} {kd : TK} {sz bts : Nat} {z0 : List V} {ag : Bool} {x y : Operand} {rows ys : List (List V)} (hT : TabOK P T) (ht : elemI T t = some (e, ⟨kd, sz, bts, z0, ag⟩)) (htx : notIntT T tx = true) (hz : z0.length = sz ∧ sz ≠ 0)
    (hu : hget s.heap u = some ⟨sz, rows⟩) (hn : n = rows.length)
    (hb : (n + ys.length) * bts ≤ 140737488355328 ∧ n + ys.length ≤ 9223372036854775807)
    (hp : (s.wr u ⟨sz, rows ++ ys⟩).put d (.hsl u 0 (n + ys.length)) = some s1) (h : AOps P ops r s1 K)
    {C : Ctx} {w : World} {a : Act} (hs : StRep C w a s) (hv : Rep C w (a.eval x) (.hsl u 0 n)) (hS : ∃ news, Src P C w sz ys (a.eval y) news) :
    ∃ v w' C' s', (execOp a.eval ⟨d, .call ⟨.builtin .append, ⟨[x, y]⟩, ⟨[t, tx]⟩⟩, ty, pos, af, gu⟩).run P w = .ok (.value v) w' ∧ StRep C' w' (a.put d v) s' ∧ Fr C C' w w' ∧ AOps P ops r s' K := by
    subst hn
    obtain ⟨news, hS⟩ := hS
    obtain ⟨L, h1, h2, h3, h4, h5⟩ := hsl_spec hs.heap hv hu (by show 0 + rows.length = rows.length; omega)
    have h2' : L.sz = sz := h2
    have h3' : L.n = rows.length := h3
    obtain ⟨hut, hte⟩ := elemI_spec hT ht
    obtain ⟨j, hj, hjs, hjb⟩ := hT.tinfo hte
    obtain ⟨z, hz1, hz2⟩ := hT.zero hte (by intro e; dsimp only at e; rw [e] at hz; simp at hz; omega)
    dsimp only at hjs hjb hz2
    have hzl : z.cells.size = sz := by rw [← hz.1, ← hz2]; simp
    have hni := notIntT_spec hT htx
    have hux : u < C.nx := hs.heap.lt u L h1
    have hex : (execOp a.eval ⟨d, .call ⟨.builtin .append, ⟨[x, y]⟩, ⟨[t, tx]⟩⟩, ty, pos, af, gu⟩).run P w = ((Builtin.append_ #[t, tx] ty #[a.eval x, a.eval y]).run P w).andThen fun v w => .ok (.value v) w := by
      simp [execOp, resolve, invoke, builtin]
    rw [hex]
    have hwr : s.wr u ⟨sz, rows ++ ys⟩ = { s with heap := (u, ⟨sz, rows ++ ys⟩) :: s.heap } := by cases s; rfl
    unfold HSL at h5
    cases hbk : L.blk with
    | some b =>
      rw [hbk] at h5; simp only [Nat.zero_mul, Nat.sub_zero] at h5
      obtain ⟨cells, el, fz, g1, g2, g3, g4, g5⟩ := of_blk hbk h4
      have hin := in_of_repR g1 g5
      rw [h2'] at hin g2
      have htk := rowsIn_take hin
      have g3' : rows.length ≤ L.cap := g3
      have hmul := Nat.mul_le_mul_right sz g3'
      have htl : (cells.toList.take (rows.length * sz)).length = rows.length * sz := by
        have hcl : cells.toList.length = L.cap * sz := g2
        rw [List.length_take, hcl]; exact Nat.min_eq_left hmul
      by_cases hroom : rows.length + ys.length ≤ L.cap
      · have hrun := run_append_room (tx := tx) (ty := ty) hut hj hjs hni hS g1 g4 g2 hroom
        rw [← h5] at hrun
        rw [hrun]
        have hle : rows.length * sz + news.length ≤ cells.size := by rw [hS.size, g2, ← Nat.add_mul]; exact Nat.mul_le_mul_right _ hroom
        have hnew := rowsIn_append (rest := cells.toList.drop (rows.length * sz + news.length)) htk htl hS.rows
        have hsize : (cells.toList.take (rows.length * sz) ++ news ++ cells.toList.drop (rows.length * sz + news.length)).toArray.size = cells.size := by
          simp only [List.size_toArray, List.length_append, htl, List.length_drop, Array.length_toList]; omega
        have hw := HSt.write hs.heap (w' := w.setRow b (cells.toList.take (rows.length * sz) ++ news ++ cells.toList.drop (rows.length * sz + news.length)).toArray) (rows := rows ++ ys) h1 hbk rfl rfl (setRow_size w b _) (fun c hc => setRow_other w b c _ hc) (setRow_heap w b cells _ el fz g1)
          (by rw [hsize, h2']; exact g2) (by rw [hsize]; exact g4) (by simpa using hroom) (by rw [h3', List.length_append]; omega) (fun C' w' E => by rw [h2']; exact hnew.mono E)
        obtain ⟨w1, w2, w3⟩ := hw
        rw [h2'] at w1 w2 w3
        refine ⟨_, _, C.set u { L with sz := sz, n := (rows ++ ys).length } C.nx, s1, rfl, put_rep (s := s.wr u ⟨sz, rows ++ ys⟩) (by rw [hwr]; exact ⟨hs.defers, hs.size, hs.nx, fun i => (hs.env i).mono w2, w1, hs.lv⟩) (.hsl hux fun L' hL' => ?_) hp, w3, h⟩
        simp [Ctx.set] at hL'
        subst hL'
        refine ⟨by simp, fun _ => ?_⟩
        unfold HSL
        simp [hbk]
      · have hold : ∀ w', Agree w w' → (Builtin.firstCells sz rows.length (.slice (some ⟨b, 0, none⟩) rows.length L.cap)).run P w' = .ok (cells.toList.take (rows.length * sz)).toArray w' := fun w' hA => by
          refine run_firstCells_some w' sz rows.length ⟨b, 0, none⟩ rows.length L.cap _ htl fun k v hk => ?_
          rw [addr_add]
          refine hA.cell ?_
          rw [List.getElem?_take] at hk
          split at hk
          · simpa [World.cell?, g1] using hk
          · simp at hk
        have hrun := run_append_more (tx := tx) (ty := ty) hut hj hjs hjb hz1 hni hold hS hroom hb.1 hb.2
        rw [← h5] at hrun
        rw [hrun]
        have hge := grownCap_ge w (rows.length + ys.length) L.cap e
        generalize grownCap w (rows.length + ys.length) L.cap e = G at hge
        have hs' := agree_rep hs (agree_drew w)
        have hnew := (rowsIn_append (rest := (Builtin.zeroCells z.cells (G - (rows.length + ys.length))).toList) htk htl hS.rows).mono (agree_ext hs.heap (agree_drew w))
        have e1 : (cells.toList.take (rows.length * sz)).toArray ++ news.toArray ++ Builtin.zeroCells z.cells (G - (rows.length + ys.length)) = ⟨cells.toList.take (rows.length * sz) ++ news ++ (Builtin.zeroCells z.cells (G - (rows.length + ys.length))).toList⟩ := by
          apply Array.ext'; simp
        have hsize : ((cells.toList.take (rows.length * sz)).toArray ++ news.toArray ++ Builtin.zeroCells z.cells (G - (rows.length + ys.length))).size = G * L.sz := by
          have h8 : (Builtin.zeroCells z.cells (G - (rows.length + ys.length))).size = (G - (rows.length + ys.length)) * sz := by simp [Builtin.zeroCells, hzl]
          rw [Array.size_append, Array.size_append, h8, h2']
          simp only [List.size_toArray, htl, hS.size]
          have h9 : G * sz = rows.length * sz + ys.length * sz + (G - (rows.length + ys.length)) * sz := by rw [← Nat.add_mul, ← Nat.add_mul]; congr 1; omega
          omega
        obtain ⟨w1, w3, w2⟩ := HSt.regrow hs'.heap (el := e) (cap := G) (rows := rows ++ ys) h1 (by rw [h3']; simp; omega) hsize (by simpa using hge) (by rw [e1, h2']; exact hnew)
        rw [h2'] at w1 w2 w3
        refine ⟨_, _, C.set u ⟨some w.drew.heap.size, sz, (rows ++ ys).length, G⟩ C.nx, s1, rfl, put_rep (s := s.wr u ⟨sz, rows ++ ys⟩) (by rw [hwr]; exact ⟨hs.defers, hs.size, hs.nx, fun i => (hs'.env i).mono w2, w1, hs.lv⟩) (.hsl hux fun L' hL' => ?_) hp, (agree_fr (agree_drew w)).trans w3, h⟩
        simp [Ctx.set] at hL'
        subst hL'
        refine ⟨by simp, fun _ => ?_⟩
        simp [HSL]
    | none =>
      rw [hbk] at h5; simp only at h5
      unfold Blk at h4; rw [hbk] at h4
      obtain ⟨hr0, hcap0⟩ := h4
      have hr0' : rows = [] := hr0
      subst hr0'
      by_cases hy0 : ys.length = 0
      · have hy0' : ys = [] := List.eq_nil_of_length_eq_zero hy0
        subst hy0'
        have hrun := run_append_zero (tx := tx) (ty := ty) hut hj hjs hni hS
        rw [← h5] at hrun
        rw [hrun]
        refine ⟨_, _, C, s1, rfl, put_rep (s := s.wr u ⟨sz, [] ++ []⟩) (by rw [hwr]; exact ⟨hs.defers, hs.size, hs.nx, hs.env, hst_dup hs.heap hu, hs.lv⟩) hv hp, Fr.refl _ _, h⟩
      · have hold : ∀ w', Agree w w' → (Builtin.firstCells sz 0 (.slice none 0 0)).run P w' = .ok ([] : List Value).toArray w' := fun w' _ => by simp [Builtin.firstCells]
        have hrun := run_append_more (tx := tx) (ty := ty) hut hj hjs hjb hz1 hni hold hS (by omega) (by simpa using hb.1) (by simpa using hb.2)
        rw [← h5] at hrun
        rw [hrun]
        have hge := grownCap_ge w (0 + ys.length) 0 e
        generalize grownCap w (0 + ys.length) 0 e = G at hge
        have hs' := agree_rep hs (agree_drew w)
        have hnew := (rowsIn_append (cs := []) (rows := []) (rest := (Builtin.zeroCells z.cells (G - (0 + ys.length))).toList) ⟨fun _ => [], fun i row hi => by simp at hi⟩ (by simp) hS.rows).mono (agree_ext hs.heap (agree_drew w))
        have e1 : ([] : List Value).toArray ++ news.toArray ++ Builtin.zeroCells z.cells (G - (0 + ys.length)) = ⟨[] ++ news ++ (Builtin.zeroCells z.cells (G - (0 + ys.length))).toList⟩ := by
          apply Array.ext'; simp
        have hsize : (([] : List Value).toArray ++ news.toArray ++ Builtin.zeroCells z.cells (G - (0 + ys.length))).size = G * L.sz := by
          have h8 : (Builtin.zeroCells z.cells (G - (0 + ys.length))).size = (G - (0 + ys.length)) * sz := by simp [Builtin.zeroCells, hzl]
          rw [Array.size_append, Array.size_append, h8, h2']
          simp only [List.size_toArray, List.length_nil, hS.size]
          have h9 : G * sz = ys.length * sz + (G - (0 + ys.length)) * sz := by rw [← Nat.add_mul]; congr 1; omega
          omega
        obtain ⟨w1, w3, w2⟩ := HSt.regrow hs'.heap (el := e) (cap := G) (rows := [] ++ ys) h1 (by rw [h3']; simp; omega) hsize (by simpa using hge) (by rw [e1, h2']; exact hnew)
        rw [h2'] at w1 w2 w3
        refine ⟨_, _, C.set u ⟨some w.drew.heap.size, sz, ([] ++ ys).length, G⟩ C.nx, s1, rfl, put_rep (s := s.wr u ⟨sz, [] ++ ys⟩) (by rw [hwr]; exact ⟨hs.defers, hs.size, hs.nx, fun i => (hs'.env i).mono w2, w1, hs.lv⟩) (.hsl hux fun L' hL' => ?_) hp, (agree_fr (agree_drew w)).trans w3, h⟩
        simp [Ctx.set] at hL'
        subst hL'
        refine ⟨by simp, fun _ => ?_⟩
        simp [HSL]

/-- APPEND to an own row. -/
theorem s_append {ops : Array Oper} {d : Option Nat} {ty : Nat} {pos : String} {af : Array Edge} {gu : Option (Nat × Bool)} {r : List Oper} {K : St → Prop} {s1 : St}
    {t tx e u n : Nat} {kd : TK} {sz bts : Nat} {z0 : List V} {ag : Bool} {x y : Operand} {rows ys : List (List V)} (hT : TabOK P T) (hg : gd ops.toList s gu = some true) (ht : elemI T t = some (e, ⟨kd, sz, bts, z0, ag⟩)) (htx : notIntT T tx = true) (hz : z0.length = sz ∧ sz ≠ 0)
    (hx : ev s x = .hsl u 0 n) (hu : hget s.heap u = some ⟨sz, rows⟩) (hn : n = rows.length) (hsrc : ∀ C w a, StRep C w a s → ∃ news, Src P C w sz ys (a.eval y) news)
    (hb : (n + ys.length) * bts ≤ 140737488355328 ∧ n + ys.length ≤ 9223372036854775807)
    (hp : (s.wr u ⟨sz, rows ++ ys⟩).put d (.hsl u 0 (n + ys.length)) = some s1) (h : AOps P ops r s1 K) :
    AOps P ops (⟨d, .call ⟨.builtin .append, ⟨[x, y]⟩, ⟨[t, tx]⟩⟩, ty, pos, af, gu⟩ :: r) s K :=
  aops_value hg fun C w a hs => append_core hT ht htx hz hu hn hb hp h hs (by have := hs.ev x; rwa [hx] at this) (hsrc C w a hs)

end
end Go.Abs
