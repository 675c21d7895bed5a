/-
  The row of FnExactFormatImage: for all arguments the law's function returns true. Conditions: none.
-/
import Derived.Test.YtmgigglpdhoneaaDoorDecFm
import Derived.Test.YtmgigglpdhoneaaDoorGwI
import Derived.Test.YtmgigglpdhoneaaDoorPtFim
import Derived.Test.YtmgigglpdhoneaaDoorItoaD
import Derived.Test.YtmgigglpdhoneaaDoorLibG
import Derived.Test.YtmgigglpdhoneaaDoorTie
import Derived.Test.YtmgigglpdhoneaaDoorCards
import Derived.ProofKit
import Derived.LaidMore
import Derived.OpenShut
import Derived.Stop.Joined
import Derived.SevenTiedAt
set_option linter.unusedVariables false
set_option linter.unusedSimpArgs false
namespace Go.Proofs.YtmgigglpdhoneaaDoor
open Go Go.Abs Go.ChangeShapes Go.WideShapes Go.ChangeAt Go.WideMaps Go.WideElems Go.RowKit

abbrev laidAll : List (String × DataW Unit) := [("math/bits.deBruijn32tab", Rows.laid_math_bits_deBruijn32tab), ("math/bits.deBruijn64tab", Rows.laid_math_bits_deBruijn64tab), ("internal/strconv.uint64pow10", Rows.laid_internal_strconv_uint64pow10), ("loop.example/g03220/impl.opNames", Rows.laid_loop_example_g03220_impl_opNames)]
set_option maxRecDepth 100000 in
theorem door_met (os : Os) (args : Array Value) : laidMetH Tryd.prog laidAll ((World.doorLaid Tryd.prog 29 os).forCall (fun _ _ => 0) ⟨#[], args, []⟩).memory :=
  laidMetH_of_parts3 (fuel := 8) (laidMet_of_run' 8 (by kernel_rfl) (by kernel_rfl)) (by kernel_rfl) (by kernel_rfl)
theorem pow_data : (Rows.laid_internal_strconv_uint64pow10 : DataW Unit) = Go.Lib.tabData .u64 Go.Lib.pow10Tab := by kernel_rfl
theorem pow_of_laid {W : World} (h : laidMetH Tryd.prog laidAll W) : ∃ el fz, W.heap[1]? = some (.cells (Go.Lib.pow10Tab.map fun z => Value.int .u64 z).toArray el fz) := by
  rw [MakeChecks.laidMetH_plain _ _ _ (by kernel_rfl)] at h
  obtain ⟨ps, hl, _⟩ := h
  obtain ⟨_, _, _, _, _, _, _, _, _, _, hl, _⟩ := hl
  obtain ⟨_, _, _, _, _, _, _, _, _, _, hl, _⟩ := hl
  obtain ⟨g, t, cs, fuel, p, q, hg, ht, hv, hd, _, _⟩ := hl
  obtain rfl := Option.some.inj (gPow.symm.trans hg)
  obtain rfl := Option.some.inj ((show (Tryd.prog.globals[1]?).map (·.type) = some 110 by kernel_rfl).symm.trans ht)
  rw [pow_data] at hd
  have hc := Go.Lib.cells_of_tab Tryd.underlying110 Tryd.underlying101 (by kernel_rfl) (by kernel_rfl) hd
  simp only [World.var?, gPow, Option.bind_some] at hv
  split at hv
  · rename_i cs' el fz hh
    simp only [Option.some.injEq] at hv
    subst hv
    refine ⟨el, fz, ?_⟩
    rw [hh, ← hc]
  · cases hv
theorem gOp : Tryd.prog.globalNamed "loop.example/g03220/impl.opNames" = some 0 := by kernel_rfl
theorem tOp : (Tryd.prog.globals[0]?).map (·.type) = some 87 := by kernel_rfl
theorem ops_data : (Rows.laid_loop_example_g03220_impl_opNames : DataW Unit) = .agg (x_opNames.map fun s => .lit (.string s)) := by rfl
theorem ops_of_laid {W : World} (h : laidMetH Tryd.prog laidAll W) : ∃ el fz, W.heap[0]? = some (.cells (x_opNames.map fun s => Value.string ⟨s.toArray⟩).toArray el fz) := by
  rw [MakeChecks.laidMetH_plain _ _ _ (by kernel_rfl)] at h
  obtain ⟨ps, hl, _⟩ := h
  obtain ⟨_, _, _, _, _, _, _, _, _, _, hl, _⟩ := hl
  obtain ⟨_, _, _, _, _, _, _, _, _, _, hl, _⟩ := hl
  obtain ⟨_, _, _, _, _, _, _, _, _, _, hl, _⟩ := hl
  obtain ⟨g, t, cs, fuel, p, q, hg, ht, hv, hd, _, _⟩ := hl
  obtain rfl := Option.some.inj (gOp.symm.trans hg)
  obtain rfl := Option.some.inj (tOp.symm.trans ht)
  rw [ops_data] at hd
  obtain ⟨xs, m1, rfl, hx1, hlen, hn, hel⟩ := DataW.trod_array Tryd.underlying87 hd
  have c9 : Tryd.prog.cellsOf 9 = 1 := by kernel_rfl
  have hx : xs.map (·.1) = x_opNames.map fun s => (DataW.lit (.string s) : DataW Unit) := by
    simp only [Prod.mk.injEq] at hx1
    have h := hx1.1
    simp only [DataW.agg.injEq] at h
    exact h.symm
  have hget : ∀ (i : Nat) s, x_opNames[i]? = some s → cs[i]? = some (.string ⟨s.toArray⟩) := by
    intro i s hs
    have hi : i < 20 := by
      rcases Nat.lt_or_ge i x_opNames.length with h | h
      · exact h
      · simp [List.getElem?_eq_none h] at hs
    have he := hel i hi
    rw [c9] at he
    have hxi : xs[i]?.map (·.1) = some (.lit (.string s)) := by
      rw [← List.getElem?_map, hx, List.getElem?_map, hs]; rfl
    cases hxs : xs[i]? with
    | none => simp [hxs] at hxi
    | some x =>
      rw [hxs] at he hxi
      simp only [Option.map_some, Option.some.injEq] at hxi
      obtain ⟨s', e1, e2, _⟩ := DataW.trod_string Tryd.underlying9 he
      rw [e2] at hxi
      simp only [DataW.lit.injEq, Lit.string.injEq] at hxi
      have h1 : cs[i]? = some (.string s') := by
        have := congrArg (·[0]?) e1
        simpa [List.getElem?_take, List.getElem?_drop] using this
      rw [h1, ← hxi]
  have c53 : Tryd.prog.cellsOf 87 = 20 := by kernel_rfl
  have hsz : cs.toList.length = 20 := by rw [hlen, c53]
  have hc : cs = (x_opNames.map fun s => Value.string ⟨s.toArray⟩).toArray := by
    apply Array.ext'
    apply List.ext_getElem?
    intro i
    rcases Nat.lt_or_ge i 20 with hi | hi
    · obtain ⟨s, hs⟩ : ∃ s, x_opNames[i]? = some s := ⟨_, List.getElem?_eq_getElem (show i < x_opNames.length from hi)⟩
      have := hget i s hs
      rw [Array.getElem?_toList, this]
      simp [hs]
    · rw [List.getElem?_eq_none (by omega), List.getElem?_eq_none (by simpa using (show x_opNames.length ≤ i from hi))]
  simp only [World.var?, gOp, Option.bind_some] at hv
  split at hv
  · rename_i cs' el fz hh
    simp only [Option.some.injEq] at hv
    subst hv
    refine ⟨el, fz, ?_⟩
    rw [hh, ← hc]
  · cases hv
theorem tab_of_laid {W : World} (h : laidMetH Tryd.prog laidAll W) : ∀ b, tabAt b = true → b < W.heap.size ∧ tabIs b W.heap[b]? := fun b hb => by
  have hp := pow_of_laid h
  have ho := ops_of_laid h
  have lt : ∀ {k : Nat} {o : Obj}, W.heap[k]? = some o → k < W.heap.size := fun {k o} e => by
    rcases Nat.lt_or_ge k W.heap.size with h | h
    · exact h
    · simp [Array.getElem?_eq_none h] at e
  have hb1 : b = 0 ∨ b = 1 := by
    simp only [tabAt, Bool.or_eq_true] at hb
    rcases hb with hb | hb
    · exact .inl (Nat.eq_of_beq_eq_true hb)
    · exact .inr (Nat.eq_of_beq_eq_true hb)
  rcases hb1 with rfl | rfl
  · refine ⟨?_, And.intro (fun _ => ho) (fun e => absurd e (by decide))⟩
    obtain ⟨_, _, ho⟩ := ho; exact lt ho
  · refine ⟨?_, And.intro (fun e => absurd e (by decide)) (fun _ => hp)⟩
    obtain ⟨_, _, hp⟩ := hp; exact lt hp

set_option maxRecDepth 100000 in
theorem FnExactFormatImage_lifted (os : Os) (started : os.Started) (H : Type) (enc : TypeId × Value → H) :
    ReturnsInHanded {} Tryd.checked os 3 .any (fun w args => (Rows.fnExactFormatImageSpec.pre enc Tryd.prog Tryd.f3 [] false w args ∧ laidMetH Tryd.prog laidAll w) ∧ sizedMet enc Tryd.prog Tryd.f3 (OpenSpec.ofChange Rows.fnExactFormatImageSpec) false w args) (Rows.fnExactFormatImageSpec.post enc Tryd.prog Tryd.f3 false true false false) := by
  refine returnsInHanded_of_change_and (C := Tryd.checked) (X := fun w _ => laidMetH Tryd.prog laidAll w) (fun _ _ _ hh h => h.of_heap hh) Tryd.own started (by kernel_rfl) Tryd.func3
    (ChangeSpec.witness_shaped (enc := enc) (C := Tryd.checked) (os := os) (X := fun w _ => laidMetH Tryd.prog laidAll w) false (World.doorLaid Tryd.prog 29 os) #[.agg #[.slice none 0 0, .int .i64 0]] 8 rfl (World.shaped_of_RefB (by kernel_rfl) (by kernel_rfl)) (by kernel_rfl) (by kernel_rfl) (by kernel_rfl) (door_met os _)) ?_
  intro W base args ds gs before hval0 hW _ _ hL _
  have hval : ∀ (j : Nat) t v, Tryd.f3.params[j]? = some t → args[j]? = some v → Value.okWide Tryd.prog W .any base t v := hval0
  have hW' := hW
  obtain ⟨p, q, hA0, hV, rfl, hfz, hnd⟩ := hW
  have hA : DataW.TrodAll enc Tryd.prog W 0 (fun _ => true) true Tryd.f3.params.toList args.toList ds p := hA0
  rw [Tryd.params3] at hA hval
  obtain ⟨v0, d0, rfl, rfl, h0⟩ := trodAll_one hA
  obtain ⟨g, t, cs, fuel, d, p', rfl, _⟩ := trodVars_one hV
  obtain ⟨x0, w0, r0⟩ := decA_T24 H enc (Ctx.start W) W base v0 d0 _ (start_good W) (hval 0 24 v0 rfl rfl) h0
  refine (law_calls (w_FnExactFormatImage_ok x0 true (w_FnExactFormatImage_true x0 w0)) (.cons r0 .nil) (tab_of_laid hL)).mono ?_
  rintro e W' ⟨v, rfl, hv, A⟩
  exact ⟨v, rfl, post_true1 hW' rfl gOp tOp Tryd.laidOut (by kernel_rfl) (by kernel_rfl) Tryd.underlying4 rfl A hv (fun fuel cs d p' e4 =>
    DataW.trod_stays (kids_book Tryd.laidOut (t0 := 87) (by kernel_rfl)) (book_sized (by kernel_rfl)) (fun h => by cases h) ⟨of_decide_eq_true (by kernel_rfl), book_self 87⟩ e4 (fun x hx => by
      have := A.heap x.block (DataW.trod_lt _ _ _ _ e4 x hx)
      cases x with
      | cell b o => exact cell_of_block (by simpa [MemPlace.block] using this) o
      | map b => simpa [MemPlace.block, World.sameAt] using this) (fun x hx => by simpa using DataW.trod_lt _ _ _ _ e4 x hx))⟩

theorem FnExactFormatImage_holds : Rows.FnExactFormatImageSaid :=
  OpenClaim.holds_of_wide 3 Tryd.f3 rfl rfl rfl rfl rfl rfl rfl ⟨rfl, rfl, rfl, rfl, rfl⟩ rfl rfl rfl rfl rfl (by kernel_rfl) Tryd.func3 (by kernel_rfl)
    (of_decide_eq_true (by kernel_rfl)) (by unfold Func.isWrapper; first | (rw [if_pos (by decide +kernel)]; kernel_rfl) | (rw [if_neg (by decide +kernel)]; exact ⟨rfl, rfl⟩))
    (fun os started H enc _ => FnExactFormatImage_lifted os started H enc)
theorem FnExactFormatImage_card : Rows.FnExactFormatImageCardSaid :=
  Claim7.holds_tied_plain_at .later [] [.data, .data, .data, .data] true (true, "1613d82af086969f944b23c966757434cb731a358de20477602b308a1f731a8f") false
    FnExactFormatImage_holds (fun _ h => by cases h) (by kernel_rfl) (fun _ h => by cases h) fnExactFormatImage_row_tie rfl ⟨rfl, rfl⟩ (by kernel_rfl) rfl
    (fun f fn hf hfn => by
      obtain rfl : f = 3 := Option.some.inj ((show Tryd.prog.funcNamed "loop.example/g03220/laws.FnExactFormatImage" = some 3 by kernel_rfl).symm.trans hf) |>.symm
      obtain rfl : fn = Tryd.f3 := (Option.some.inj (Tryd.func3.symm.trans hfn)).symm
      exact ⟨by kernel_rfl, fun j t ht => by
        rw [Tryd.params3] at ht
        have hm : t ∈ [24] := by simpa using Array.mem_of_getElem? ht
        have hall : ([24].all fun u => !Tryd.prog.wantsStandIn u) = true := by kernel_rfl
        exact (show Tryd.prog.wantsStandIn t = false by simpa using List.all_eq_true.1 hall t hm)⟩)
    (by kernel_rfl)

end Go.Proofs.YtmgigglpdhoneaaDoor
