/-
  Structs and slices written out; appends.
-/
import Derived.Test.YtiecdekmiabmkaaAbsK
set_option linter.unusedVariables false
set_option linter.unusedSimpArgs false
namespace Go.Abs

def vfill (place : Nat → Option (Nat × Nat)) (cells : List V) : List (Nat × List V) → Option (List V)
  | [] => some cells
  | (i, cs) :: r => match place i with
    | some (off, size) => bif Nat.beq cs.length size then (match putAt cells off cs with | some cells' => vfill place cells' r | none => none) else none
    | none => none

def partsV (s : St) : List (Nat × Operand) → Option (List (Nat × List V))
  | [] => some []
  | (i, x) :: r => match cellsV s (ev s x), partsV s r with
    | some cs, some ps => some ((i, cs) :: ps)
    | _, _ => none

def fieldPl (T : List TI) (fs : List (Nat × Nat)) (i : Nat) : Option (Nat × Nat) := match fs[i]? with
  | some (o, t) => (match T[t]? with | some ⟨_, size, _, _, _⟩ => some (o, size) | none => none)
  | none => none

def buildV (T : List TI) (s : St) (t : Nat) (parts : List (Nat × Operand)) : Option V :=
  match T[t]? with
  | some { kind := .struct fs, zero := z, .. } => (bif z.isEmpty then none else match partsV s parts with
    | some ps => (match vfill (fieldPl T fs) z ps with | some cs => some (.agg cs) | none => none)
    | none => none)
  | _ => none

section
variable {P : Program} {T : List TI} {s : St} {ops : Array Oper} {d : Option Nat} {ty : Nat} {pos : String} {af : Array Edge} {gu : Option (Nat × Bool)} {r : List Oper} {K : St → Prop} {s1 : St}

theorem foldl_set : ∀ (cs : List Value) (k : Nat) (off : Nat) (arr : Array Value), off + k + cs.length ≤ arr.size →
    ((cs.zipIdx k).foldl (fun a (p : Value × Nat) => a.setIfInBounds (off + p.2) p.1) arr).toList = arr.toList.take (off + k) ++ cs ++ arr.toList.drop (off + k + cs.length)
  | [], k, off, arr, _ => by simp
  | c :: cs, k, off, arr, h => by
    have h' : off + k + (cs.length + 1) ≤ arr.size := by simpa using h
    simp only [List.zipIdx_cons, List.foldl_cons]
    rw [foldl_set cs (k + 1) off _ (by simp; omega)]
    have e := list_seg_step arr.toList (off + k) c cs (by simp; omega)
    simpa [Array.toList_setIfInBounds, Nat.add_assoc] using e

theorem fill_spec {C : Ctx} {w : World} {a : Act} (hs : StRep C w a s) {place : Nat → Option (Nat × Nat)} : ∀ {parts : List (Nat × Operand)} {ps : List (Nat × List V)} {cells : Array Value} {zs cs : List V}, partsV s parts = some ps → RepL C w cells.toList zs → vfill place zs ps = some cs →
    ∃ cells', Instr.fill place cells (parts.map fun p => (p.1, a.eval p.2)) = some cells' ∧ RepL C w cells'.toList cs
  | [], ps, cells, zs, cs, hp, hz, hf => by
    simp only [partsV, Option.some.injEq] at hp
    subst hp
    simp only [vfill, Option.some.injEq] at hf
    subst hf
    exact ⟨cells, rfl, hz⟩
  | (i, x) :: r, ps, cells, zs, cs, hp, hz, hf => by
    simp only [partsV] at hp
    split at hp
    · rename_i xs ps' h1 h2
      simp only [Option.some.injEq] at hp
      subst hp
      simp only [vfill] at hf
      split at hf
      · rename_i off size hpl
        rw [Bool.cond_eq_ite] at hf
        split at hf
        · rename_i hc
          rw [Nat.beq_eq] at hc
          split at hf
          rotate_left
          · simp at hf
          rename_i cells' hput
          obtain ⟨hput1, hput2⟩ := putAt_spec hput
          subst hput1
          have hc := And.intro hc hput2
          have hx := cellsV_spec hs (hs.ev x) h1
          have hxl := hx.length
          have hzl := hz.length
          simp only [Array.length_toList] at hxl hzl
          have hb : off + 0 + (a.eval x).cells.toList.length ≤ cells.size := by simp; omega
          have hset := foldl_set (a.eval x).cells.toList 0 off cells hb
          have hnew : RepL C w ((a.eval x).cells.toList.zipIdx.foldl (fun a (p : Value × Nat) => a.setIfInBounds (off + p.2) p.1) cells).toList (zs.take off ++ xs ++ zs.drop (off + xs.length)) := by
            rw [hset]
            have hcl : (a.eval x).cells.toList.length = xs.length := by simpa using hxl
            rw [Nat.add_zero, hcl]
            exact ((hz.take off).append hx).append (hz.drop _)
          obtain ⟨cells', g1, g2⟩ := fill_spec hs (parts := r) h2 hnew hf
          refine ⟨cells', ?_, g2⟩
          simp only [List.map_cons, Instr.fill, hpl]
          rw [if_neg (by simp; omega)]
          rw [← g1]
          congr 1
          rw [← Array.foldl_toList, Array.toList_zipIdx]
        · simp at hf
      · simp at hf
    · simp at hp

theorem mapM_places (hT : TabOK P T) (w : World) (fields : Array Field) (fs : List (Nat × Nat)) (hm : fields.toList.map (fun f => (f.offset, f.type)) = fs) (hall : fs.all (fun p => (T[p.2]?).isSome) = true) :
    ∃ places : Array (Nat × Nat), (fields.mapM (fun f => do pure (f.offset, ← sizeOf f.type) : Field → Sem (Nat × Nat))).run P w = .ok places w ∧ ∀ i, places[i]? = fieldPl T fs i := by
  have key : ∀ l : List Field, (l.map (fun f => (f.offset, f.type))).all (fun p => (T[p.2]?).isSome) = true → ∃ pl : List (Nat × Nat), (l.mapM (fun f => do pure (f.offset, ← sizeOf f.type) : Field → Sem (Nat × Nat))).run P w = .ok pl w ∧ ∀ i, pl[i]? = fieldPl T (l.map (fun f => (f.offset, f.type))) i := by
    intro l
    induction l with
    | nil => intro _; exact ⟨[], by simp, fun i => by simp [fieldPl]⟩
    | cons f l ih =>
      intro h
      simp only [List.map_cons, List.all_cons, Bool.and_eq_true] at h
      obtain ⟨ti, hti⟩ := Option.isSome_iff_exists.1 h.1
      obtain ⟨pl, h1, h2⟩ := ih h.2
      refine ⟨(f.offset, ti.size) :: pl, by simp only [List.mapM_cons, Sem.run_bind, hT.size hti, Result.andThen_ok, Sem.run_pure, h1], fun i => ?_⟩
      cases i with
      | zero => simp [fieldPl, hti]
      | succ i => simpa [fieldPl] using h2 i
  subst hm
  obtain ⟨pl, h1, h2⟩ := key fields.toList hall
  refine ⟨⟨pl⟩, ?_, fun i => by simpa using h2 i⟩
  rw [Array.mapM_eq_mapM_toList]
  simp only [Sem.run_map, h1, Result.andThen_ok]

def fieldsOk (T : List TI) (t : Nat) : Bool := match T[t]? with
  | some { kind := .struct fs, .. } => fs.all (fun p => (T[p.2]?).isSome)
  | _ => false

/-- A struct written out. -/
theorem ov_build {t : Nat} {parts : List (Nat × Operand)} {x : V} (hT : TabOK P T) (hok : fieldsOk T t = true) (hx : buildV T s t parts = some x) : OpVal P s (.build t ⟨parts⟩) x := fun C w a hs d ty pos af gu => by
  unfold buildV at hx
  split at hx
  · rename_i fs size bytes z ag ht
    rw [Bool.cond_eq_ite] at hx
    split at hx
    · simp at hx
    · rename_i hz
      split at hx
      · rename_i ps hps
        split at hx
        · rename_i cs hcs
          simp only [Option.some.injEq] at hx
          subst hx
          obtain ⟨fields, hu, hmap⟩ := hT.struct ht rfl
          obtain ⟨zv, hz1, hz2⟩ := hT.zero ht (by intro e; simp at e; simp [e] at hz)
          have hok' : fs.all (fun p => (T[p.2]?).isSome) = true := by simpa [fieldsOk, ht] using hok
          have hrep := repL_toV C w zv.cells.toList
          rw [hz2] at hrep
          obtain ⟨places, _, hpl⟩ := mapM_places hT w fields fs hmap hok'
          obtain ⟨cells', g1, g2⟩ := fill_spec hs (place := (places[·]?)) hps hrep (by
            have : (fun i => places[i]?) = fieldPl T fs := funext hpl
            rw [this]; exact hcs)
          refine ⟨.agg cells', fun w' _ => ?_, .agg (by simpa using g2)⟩
          obtain ⟨places', hp1', hpl'⟩ := mapM_places hT w' fields fs hmap hok'
          have heq : places' = places := Array.ext_getElem? fun i => by rw [hpl', hpl]
          subst heq
          have g1' : Instr.fill (fun i => places'[i]?) zv.cells (parts.map fun p => (p.1, a.eval p.2)) = some cells' := g1
          simp only [execOp, Instr.build, Sem.run_bind, hz1, Result.andThen_ok, run_underlying hu, hp1']
          simp [g1']
        · simp at hx
      · simp at hx
  · simp at hx

/-! ### Slices written out -/
/-- The parts of a slice, in order from k on, each a row of the size. -/
def rowsV (s : St) (sz : Nat) : Nat → List (Nat × Operand) → Option (List (List V))
  | _, [] => some []
  | k, (i, x) :: r => bif Nat.beq i k then (match cellsV s (ev s x), rowsV s sz (k + 1) r with
    | some cs, some rs => bif Nat.beq cs.length sz then some (cs :: rs) else none
    | _, _ => none) else none

theorem rowsV_fill {C : Ctx} {w : World} {a : Act} (hs : StRep C w a s) {sz : Nat} : ∀ {parts : List (Nat × Operand)} {k : Nat} {rows : List (List V)} {cells : Array Value}, rowsV s sz k parts = some rows → cells.size = (k + rows.length) * sz →
    ∃ vals : List (List Value), Instr.fill (fun i => some (i * sz, sz)) cells (parts.map fun p => (p.1, a.eval p.2)) = some ⟨cells.toList.take (k * sz) ++ vals.flatten⟩ ∧ vals.length = rows.length ∧ (∀ (i : Nat) (row : List V), rows[i]? = some row → ∃ vs, vals[i]? = some vs ∧ RepL C w vs row) ∧ (∀ vs ∈ vals, vs.length = sz)
  | [], k, rows, cells, h, hc => by
    simp only [rowsV, Option.some.injEq] at h
    subst h
    refine ⟨[], ?_, rfl, fun i row hi => by simp at hi, fun vs h => by simp at h⟩
    simp only [List.map_nil, Instr.fill, List.flatten_nil, List.append_nil]
    simp at hc
    rw [List.take_of_length_le (by simp; omega)]
  | (i, x) :: r, k, rows, cells, h, hc => by
    simp only [rowsV] at h
    rw [Bool.cond_eq_ite] at h
    split at h
    · rename_i hik
      rw [Nat.beq_eq] at hik
      subst hik
      split at h
      · rename_i cs rs h1 h2
        rw [Bool.cond_eq_ite] at h
        split at h
        · rename_i hsz
          rw [Nat.beq_eq] at hsz
          simp only [Option.some.injEq] at h
          subst h
          have hx := cellsV_spec hs (hs.ev x) h1
          have hxl := hx.length
          simp only [Array.length_toList] at hxl
          have hcs : cells.size = i * sz + sz + rs.length * sz := by rw [hc]; simp only [List.length_cons]; rw [← Nat.succ_mul, ← Nat.add_mul]; congr 1; omega
          have hset := foldl_set (a.eval x).cells.toList 0 (i * sz) cells (by simp; omega)
          let cells2 := ((a.eval x).cells.toList.zipIdx.foldl (fun a (p : Value × Nat) => a.setIfInBounds (i * sz + p.2) p.1) cells)
          have hset' : cells2.toList = cells.toList.take (i * sz) ++ (a.eval x).cells.toList ++ cells.toList.drop (i * sz + sz) := by
            have : (a.eval x).cells.toList.length = sz := by simp; omega
            rw [Nat.add_zero, this] at hset
            exact hset
          have hcs2 : cells2.size = (i + 1 + rs.length) * sz := by
            have : cells2.toList.length = (i + 1 + rs.length) * sz := by
              rw [hset']
              simp only [List.length_append, List.length_take, List.length_drop, Array.length_toList]
              rw [Nat.add_mul, Nat.succ_mul]; omega
            simpa using this
          obtain ⟨vals, g1, g2, g3, g4⟩ := rowsV_fill hs (parts := r) (cells := cells2) h2 hcs2
          refine ⟨(a.eval x).cells.toList :: vals, ?_, by simp [g2], fun j row hj => ?_, fun vs hv => ?_⟩
          · simp only [List.map_cons, Instr.fill]
            rw [if_neg (by simp; omega)]
            have e : ((a.eval x).cells.zipIdx.foldl (fun cs (p : Value × Nat) => cs.setIfInBounds (i * sz + p.2) p.1) cells) = cells2 := by
              rw [← Array.foldl_toList, Array.toList_zipIdx]
            have e2 : (Array.foldl (fun cs x => match x with | (c, j) => cs.setIfInBounds (i * sz + j) c) cells (a.eval x).cells.zipIdx) = cells2 := e
            rw [e2, g1, hset']
            congr 2
            have hlen : (cells.toList.take (i * sz) ++ (a.eval x).cells.toList).length = (i + 1) * sz := by
              simp only [List.length_append, List.length_take, Array.length_toList]; rw [Nat.succ_mul]; omega
            rw [List.take_append_of_le_length (by omega), List.take_of_length_le (by omega)]
            simp
          · cases j with
            | zero => simp at hj; subst hj; exact ⟨_, by simp, hx⟩
            | succ j => simpa using g3 j row (by simpa using hj)
          · rcases List.mem_cons.1 hv with rfl | hv
            · simp; omega
            · exact g4 vs hv
        · simp at h
      · simp at h
    · simp at h

theorem flatten_get {sz : Nat} : ∀ (vals : List (List Value)), (∀ vs ∈ vals, vs.length = sz) → ∀ (i j : Nat) (vs : List Value) (v : Value), vals[i]? = some vs → vs[j]? = some v → vals.flatten[i * sz + j]? = some v
  | [], _, i, j, vs, v, h, _ => by simp at h
  | x :: r, hall, 0, j, vs, v, h, hj => by
    simp at h
    subst h
    have hjl : j < x.length := by
      rcases Nat.lt_or_ge j x.length with h | h
      · exact h
      · simp [List.getElem?_eq_none h] at hj
    rw [List.flatten_cons, Nat.zero_mul, Nat.zero_add, List.getElem?_append_left hjl]; exact hj
  | x :: r, hall, i + 1, j, vs, v, h, hj => by
    have hx := hall x (by simp)
    rw [List.flatten_cons, Nat.succ_mul, List.getElem?_append_right (by omega)]
    rw [show i * sz + sz + j - x.length = i * sz + j by omega]
    exact flatten_get r (fun vs hv => hall vs (by simp [hv])) i j vs v (by simpa using h) hj

/-- '[]T{..}': the step itself. -/
theorem run_slit {d : Option Nat} {ty : Nat} {pos : String} {af : Array Edge} {gu : Option (Nat × Bool)} {t e n : Nat} {kd : TK} {sz bts : Nat} {z0 : List V} {ag : Bool} {parts : List (Nat × Operand)} {rows : List (List V)} (hT : TabOK P T) (ht : elemI T t = some (e, ⟨kd, sz, bts, z0, ag⟩)) (hz : z0.isEmpty = false)
    (hr : rowsV s sz 0 parts = some rows) (hn : Nat.beq rows.length n = true) (hb : Nat.ble (n * sz) 16777216 = true) {C : Ctx} {w : World} {a : Act} (hs : StRep C w a s) :
    ∃ v cs el, (execOp a.eval ⟨d, .buildSlice t n ⟨parts⟩, ty, pos, af, gu⟩).run P w = .ok (.value v) (w.alloc (.cells cs el)) ∧ cs.size = n * sz ∧ rows.length ≤ n ∧ RowsIn C w cs sz rows ∧ v = .slice (some ⟨w.heap.size, 0, none⟩) n n := by
    rw [Nat.beq_eq] at hn
    rw [Nat.ble_eq] at hb
    obtain ⟨hu, hte⟩ := elemI_spec hT ht
    obtain ⟨z, hz1, hz2⟩ := hT.zero hte (by intro e; dsimp only at e; simp [e] at hz)
    dsimp only at hz2
    let zc : Array Value := if n * sz = 0 then #[] else z.cells
    obtain ⟨vals, g1, g2, g3, g4⟩ := rowsV_fill hs (cells := (Array.range (n * sz)).map (fun i => zc[i % zc.size]!)) hr (by simp [hn])
    simp only [Nat.zero_mul, List.take_zero, List.nil_append] at g1
    have hfl : vals.flatten.length = n * sz := by
      have : ∀ l : List (List Value), (∀ vs ∈ l, vs.length = sz) → l.flatten.length = l.length * sz := by
        intro l
        induction l with
        | nil => intro _; simp
        | cons x l ih => intro h; rw [List.flatten_cons, List.length_append, h x (by simp), ih (fun vs hv => h vs (by simp [hv])), List.length_cons, Nat.succ_mul, Nat.add_comm]
      rw [this vals g4, g2, hn]
    refine ⟨.slice (some ⟨w.heap.size, 0, none⟩) n n, ⟨vals.flatten⟩, e, ?_, by simpa using hfl, by omega, ⟨fun i => (vals[i]?).getD [], fun i row hi => ?_⟩, rfl⟩
    · have hle : ¬ n * sz > 2 ^ 24 := by omega
      have hparts : (⟨parts⟩ : Array (Nat × Operand)).map (fun (i, x) => (i, a.eval x)) = ⟨parts.map fun p => (p.1, a.eval p.2)⟩ := by simp
      simp only [execOp, Instr.buildSlice, Sem.run_bind, run_underlying hu, Result.andThen_ok, hT.size hte, hle, if_false, Sem.run_pure, hparts]
      by_cases h0 : n * sz = 0
      · have hzc : zc = #[] := if_pos h0
        rw [hzc] at g1
        rw [h0] at g1
        simp only [h0, if_true, Sem.run_bind, Sem.run_pure, Result.andThen_ok, g1]
        simp [newRow]
      · have hzc : zc = z.cells := if_neg h0
        rw [hzc] at g1
        simp only [h0, if_false, Sem.run_bind, hz1, Sem.run_pure, Result.andThen_ok, g1]
        simp [newRow]
    · obtain ⟨vs, h1, h2⟩ := g3 i row hi
      have hv : (vals[i]?).getD [] = vs := by rw [h1]; rfl
      refine ⟨?_, fun j v hj => ?_, by show RepL C w ((vals[i]?).getD []) row; rw [hv]; exact h2⟩
      · show ((vals[i]?).getD []).length = sz
        rw [hv]; exact g4 vs (List.mem_of_getElem? h1)
      · have hj : ((vals[i]?).getD [])[j]? = some v := hj
        rw [hv] at hj
        rw [List.getElem?_toArray]
        exact flatten_get vals g4 i j vs v h1 hj
/-- '[]T{..}'. -/
theorem s_slit {t e n : Nat} {kd : TK} {sz bts : Nat} {z0 : List V} {ag : Bool} {parts : List (Nat × Operand)} {rows : List (List V)} (hT : TabOK P T) (hg : gd ops.toList s gu = some true) (ht : elemI T t = some (e, ⟨kd, sz, bts, z0, ag⟩)) (hz : z0.isEmpty = false)
    (hr : rowsV s sz 0 parts = some rows) (hn : Nat.beq rows.length n = true) (hb : Nat.ble (n * sz) 16777216 = true)
    (hp : s.newH sz rows n d = some s1) (h : AOps P ops r s1 K) :
    AOps P ops (⟨d, .buildSlice t n ⟨parts⟩, ty, pos, af, gu⟩ :: r) s K :=
  aops_new (cap := n) (rows := rows) (sz := sz) hg (fun C w a hs => by
    obtain ⟨v, cs, el, h1, h2, h3, h4, h5⟩ := run_slit (d := d) (ty := ty) (pos := pos) (af := af) (gu := gu) hT ht hz hr hn hb hs
    have e : rows.length = n := Nat.eq_of_beq_eq_true hn
    refine ⟨v, cs, el, h1, h2, h3, h4, fun C' g1 g2 => ?_⟩
    rw [h5]
    exact rep_hsl_new (by rw [e] at g1; exact g1) g2) (by rw [← newH_eq]; exact hp) h

end
end Go.Abs
