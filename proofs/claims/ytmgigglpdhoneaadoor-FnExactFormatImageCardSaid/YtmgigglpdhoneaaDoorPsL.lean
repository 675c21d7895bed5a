/-
  Plain: the laws' own helpers for data and images.
-/
import Derived.Test.YtmgigglpdhoneaaDoorLibF
import Derived.Test.YtmgigglpdhoneaaDoorGpD
import Derived.Test.YtmgigglpdhoneaaDoorPsE
set_option linter.unusedVariables false
set_option linter.unusedSimpArgs false
namespace Go.Abs
open PDat

mutual
/-- What the size test takes for a datum. -/
def wD : PDat → Nat
  | .mk _ _ t is => t.length + wDs is
def wDs : List PDat → Nat
  | [] => 0
  | d :: r => 1 + wD d + wDs r
end
theorem wD_eq (d : PDat) : wD d = d.text.length + wDs d.items := by cases d; rfl
theorem wDs_eq : ∀ ds : List PDat, wDs ds = wts wD ds
  | [] => rfl
  | d :: r => by have := wDs_eq r; unfold wts at *; simp [wDs]; omega
theorem wDs_mem : ∀ {ds : List PDat} {x : PDat}, x ∈ ds → wD x < wDs ds
  | d :: r, x, h => by
    unfold wDs
    rcases List.mem_cons.1 h with rfl | h
    · omega
    · have := wDs_mem h; omega
theorem cnt_wD : (∀ d : PDat, d.cnt ≤ wD d) ∧ ∀ ds : List PDat, cnts ds ≤ wDs ds := by
  refine ind (fun ds h => ?_) (fun d h => ?_)
  · induction ds with
    | nil => simp [cnts]
    | cons x r ih => have := h x (by simp); have := ih (fun y hy => h y (by simp [hy])); unfold cnts wDs; omega
  · rw [cnt_eq, wD_eq]; omega
theorem short_wD : (∀ d : PDat, wD d ≤ 1048576 → d.short) ∧ ∀ ds : List PDat, wDs ds ≤ 1048576 → shorts ds := by
  refine ind (fun ds h => ?_) (fun d h => ?_)
  · induction ds with
    | nil => intro _; trivial
    | cons x r ih => intro hw; unfold wDs at hw; exact ⟨h x (by simp) (by omega), ih (fun y hy => h y (by simp [hy])) (by omega)⟩
  · intro hw; rw [wD_eq] at hw; exact (short_eq d).2 ⟨by omega, h (by omega)⟩
theorem small_wD {d : PDat} (h : wD d ≤ 1048576) : d.small := ⟨short_wD.1 d h, by have := cnt_wD.1 d; omega⟩

/-- A tree whose texts and lists a slice could hold. -/
def fit (d : PDat) : Prop := d.wf
theorem wf_len {d : PDat} (h : d.wf) : d.text.length ≤ 9223372036854775807 ∧ d.items.length ≤ 9223372036854775807 ∧ ∀ x ∈ d.items, x.wf := by
  have := (wf_eq d).1 h
  exact ⟨this.2.2.1, this.2.2.2.1, fun x hx => wfs_mem this.2.2.2.2 hx⟩
theorem w_sz_eq : ∀ n : Nat, (∀ d : PDat, d.wf → ∀ left : Int, 0 ≤ left → left ≤ 1048576 → 2 * left + 2 ≤ n → w_szDatum n d left = some (szw (wD d) left)) ∧ (∀ ds : List PDat, ds.length ≤ 9223372036854775807 → (∀ x ∈ ds, x.wf) → ∀ left : Int, 0 ≤ left → left ≤ 1048576 → 2 * left + 1 ≤ n → w_szDatumS n ds left = some (szw (wDs ds) left))
  | 0 => ⟨fun d _ left h1 _ h2 => by omega, fun ds _ _ left h1 _ h2 => by omega⟩
  | n + 1 => by
    have ih := w_sz_eq n
    refine ⟨fun d hw left h0 h1 h => ?_, fun ds hl hw left h0 h1 h => ?_⟩
    · show w_szDatum_b (w_szDatum n) (w_szDatumS n) d left = _
      unfold w_szDatum_b
      have hw' := wf_len hw
      rw [chk_t (by omega), wD_eq, ← szw_szw]
      by_cases hx : left - (d.text.length : Int) < 0
      · have e : szw d.text.length left = -1 := by unfold szw; rw [if_pos hx]
        rw [if_pos hx, e]; unfold szw; rw [if_pos (by omega)]
      · have e : szw d.text.length left = left - d.text.length := by unfold szw; rw [if_neg hx]
        rw [if_neg hx, e, ih.2 d.items hw'.2.1 hw'.2.2 _ (by omega) (by omega) (by omega), bnd_eq, szw_if]
    · show w_szDatumS_b (w_szDatum n) (w_szDatumS n) ds left = _
      unfold w_szDatumS_b
      rw [wDs_eq]
      refine szS_eq (L := w_szDatumS_L1 (w_szDatum n) ds) (E := w_szDatum n) wD ds left (fun x hx m hm hm2 => ih.1 x (hw x hx) m hm (by omega) ?_) (fun go left i => rfl) ⟨h0, h1⟩ hl
      have : 0 < ds.length := List.length_pos_of_mem hx
      omega
def rfOK (d : PDat) : Prop := 2 * d.cnt + 1 < RF
theorem rfOK_small {d : PDat} (h : d.small) : rfOK d := by unfold rfOK; rw [RF_eq]; have := h.2; omega

theorem w_to_eq : ∀ n : Nat, (∀ d : PDat, 2 * d.cnt + 1 < n → d.small → w_toDatum n d = some d) ∧ (∀ ds : List PDat, 2 * cnts ds < n → cnts ds ≤ 1048576 → (∀ x ∈ ds, x.small) → w_toDatumS n ds = some ds)
  | 0 => ⟨fun d h => by omega, fun ds h => by omega⟩
  | n + 1 => by
    have ih := w_to_eq n
    refine ⟨fun d h hs => ?_, fun ds h hl hw => ?_⟩
    · show w_toDatum_b (w_toDatum n) (w_toDatumS n) d = _
      unfold w_toDatum_b
      have hc := cnt_eq d
      rw [ih.2 d.items (by omega) (by have := hs.2; omega) (fun x hx => small_item hs hx), bnd_eq]
      cases d; rfl
    · show w_toDatumS_b (w_toDatum n) (w_toDatumS n) ds = _
      unfold w_toDatumS_b
      exact toS_eq (L := w_toDatumS_L1 (w_toDatum n) ds) (T := w_toDatum n) _ ds 56 (by omega) (by have := cnts_len ds; omega) (fun x hx => ih.1 x (by have := cnts_mem hx; omega) (hw x hx)) (fun go i out => rfl)
theorem w_eq_eq : ∀ n : Nat, (∀ d : PDat, 2 * d.cnt + 1 < n → d.small → w_eqDatum n d d = some true) ∧ (∀ ds : List PDat, 2 * cnts ds < n → cnts ds ≤ 1048576 → (∀ x ∈ ds, x.small) → w_eqDatumS n ds ds = some true)
  | 0 => ⟨fun d h => by omega, fun ds h => by omega⟩
  | n + 1 => by
    have ih := w_eq_eq n
    refine ⟨fun d h hs => ?_, fun ds h hl hw => ?_⟩
    · show w_eqDatum_b (w_eqDatum n) (w_eqDatumS n) d d = _
      unfold w_eqDatum_b
      have hc := cnt_eq d
      rw [if_pos rfl, if_pos rfl, if_pos rfl, ih.2 d.items (by omega) (by have := hs.2; omega) (fun x hx => small_item hs hx), bnd_eq, if_pos rfl]
    · show w_eqDatumS_b (w_eqDatum n) (w_eqDatumS n) ds ds = _
      unfold w_eqDatumS_b
      exact eqS_refl (L := w_eqDatumS_L1 (w_eqDatum n) ds ds) (E := w_eqDatum n) ds (by have := cnts_len ds; omega) (fun x hx => ih.1 x (by have := cnts_mem hx; omega) (hw x hx)) (fun go i => rfl)
theorem toDatum_eq {d : PDat} (h : d.small) : w_toDatum RF d = some d := (w_to_eq RF).1 d (rfOK_small h) h
theorem eqDatum_eq {d : PDat} (h : d.small) : w_eqDatum RF d d = some true := (w_eq_eq RF).1 d (rfOK_small h) h

/-! ### Images -/
def wI (x : PInstr) : Nat := wD x.d
def wC (c : PCode) : Nat := wts wI c.instrs
def wM (m : PImage) : Nat := wts wC m.codes
/-- What a reading of an image gives. -/
def PInstr.ok (x : PInstr) : Prop := (IntKind.i64.min ≤ x.op ∧ x.op ≤ IntKind.i64.max) ∧ (IntKind.i64.min ≤ x.a ∧ x.a ≤ IntKind.i64.max) ∧ x.d.wf
def PCode.ok (c : PCode) : Prop := (IntKind.i64.min ≤ c.params ∧ c.params ≤ IntKind.i64.max) ∧ (IntKind.i64.min ≤ c.slots ∧ c.slots ≤ IntKind.i64.max) ∧ (IntKind.i64.min ≤ c.captures ∧ c.captures ≤ IntKind.i64.max) ∧ c.instrs.length ≤ 9223372036854775807 ∧ ∀ x ∈ c.instrs, x.ok
def PImage.ok (m : PImage) : Prop := (m.codes.length ≤ 9223372036854775807 ∧ ∀ c ∈ m.codes, c.ok) ∧ (IntKind.i64.min ≤ m.main ∧ m.main ≤ IntKind.i64.max)
theorem PDat.wf_of {x : Int × Int × List UInt8 × List PDat} (h : (IntKind.i64.min ≤ x.1 ∧ x.1 ≤ IntKind.i64.max) ∧ (IntKind.i64.min ≤ x.2.1 ∧ x.2.1 ≤ IntKind.i64.max) ∧ x.2.2.1.length ≤ 9223372036854775807 ∧ x.2.2.2.length ≤ 9223372036854775807 ∧ ∀ y ∈ x.2.2.2, y.wf) : (PDat.mk x.1 x.2.1 x.2.2.1 x.2.2.2).wf :=
  ⟨h.1, h.2.1, h.2.2.1, h.2.2.2.1, wfs_of h.2.2.2.2⟩
theorem szInstr_eq (x : PInstr) (h : x.ok) (n : Int) (h0 : 0 ≤ n) (h1 : n ≤ 1048576) : w_szInstr x n = some (szw (wI x) n) := by
  unfold w_szInstr
  rw [(w_sz_eq RF).1 x.d h.2.2 n h0 h1 (by rw [RF_eq]; omega), bnd_eq, szw_if]; rfl
theorem szInstrS_eq (xs : List PInstr) (h : xs.length ≤ 9223372036854775807 ∧ ∀ x ∈ xs, x.ok) (n : Int) (h0 : 0 ≤ n) (h1 : n ≤ 1048576) : w_szInstrS xs n = some (szw (wts wI xs) n) := by
  unfold w_szInstrS
  exact szS_eq (L := w_szInstrS_L1 xs) (E := w_szInstr) wI xs n (fun x hx m a b => szInstr_eq x (h.2 x hx) m a (by omega)) (fun go left i => rfl) ⟨h0, h1⟩ h.1
theorem szCode_eq (c : PCode) (h : c.ok) (n : Int) (h0 : 0 ≤ n) (h1 : n ≤ 1048576) : w_szCode c n = some (szw (wC c) n) := by
  unfold w_szCode
  rw [szInstrS_eq c.instrs h.2.2.2 n h0 h1, bnd_eq, szw_if]; rfl
theorem szImage_eq (m : PImage) (h : m.ok) (n : Int) (h0 : 0 ≤ n) (h1 : n ≤ 1048576) : w_szImage m n = some (szw (wM m) n) := by
  unfold w_szImage w_szCodeS
  rw [szS_eq (L := w_szCodeS_L1 m.codes) (E := w_szCode) wC m.codes n (fun x hx m a b => szCode_eq x (h.1.2 x hx) m a (by omega)) (fun go left i => rfl) ⟨h0, h1⟩ h.1.1, bnd_eq, szw_if]; rfl
theorem small_wM {m : PImage} (h : wM m ≤ 1048576) : m.small := by
  have h' : m.codes.length + wsum wC m.codes ≤ 1048576 := h
  refine ⟨by omega, fun c hc => ?_⟩
  have h1 := wsum_mem (wt := wC) hc
  have h2 : c.instrs.length + wsum wI c.instrs = wC c := rfl
  refine ⟨by omega, fun x hx => small_wD ?_⟩
  have h3 := wsum_mem (wt := wI) hx
  have h4 : wI x = wD x.d := rfl
  omega
theorem toInstr_eq (x : PInstr) (h : x.d.small) : w_toInstr x = some x := by unfold w_toInstr; rw [toDatum_eq h]; rfl
theorem toCode_eq (c : PCode) (h : c.small) : w_toCode c = some c := by
  unfold w_toCode w_toInstrS
  rw [toS_eq (L := w_toInstrS_L1 c.instrs) (T := w_toInstr) _ c.instrs 72 (by omega) h.1 (fun x hx => toInstr_eq x (h.2 x hx)) (fun go i out => rfl)]; rfl
theorem toImage_eq (m : PImage) (h : m.small) : w_toImage m = some m := by
  unfold w_toImage w_toCodeS
  rw [toS_eq (L := w_toCodeS_L1 m.codes) (T := w_toCode) _ m.codes 48 (by omega) h.1 (fun x hx => toCode_eq x (h.2 x hx)) (fun go i out => rfl)]; rfl
theorem eqInstr_eq (x : PInstr) (h : x.d.small) : w_eqInstr x x = some true := by unfold w_eqInstr; rw [eqDatum_eq h]; simp
theorem eqCode_eq (c : PCode) (h : c.small) : w_eqCode c c = some true := by
  unfold w_eqCode w_eqInstrS
  rw [eqS_refl (L := w_eqInstrS_L1 c.instrs c.instrs) (E := w_eqInstr) c.instrs h.1 (fun x hx => eqInstr_eq x (h.2 x hx)) (fun go i => rfl)]; simp
theorem eqImage_eq (m : PImage) (h : m.small) : w_eqImage m m = some true := by
  unfold w_eqImage w_eqCodeS
  rw [eqS_refl (L := w_eqCodeS_L1 m.codes m.codes) (E := w_eqCode) m.codes h.1 (fun x hx => eqCode_eq x (h.2 x hx)) (fun go i => rfl)]; simp
end Go.Abs
