/-
  The row of FnExactFormatValue: for all arguments the law's function returns true. Conditions: none.
-/
import Derived.Test.YtiecdekmiabmkaaDoorDecFV
import Derived.Test.YtiecdekmiabmkaaDoorGwH
import Derived.Test.YtiecdekmiabmkaaDoorPsG
import Derived.Test.YtiecdekmiabmkaaDoorItoaD
import Derived.Test.YtiecdekmiabmkaaDoorTie
import Derived.Test.YtiecdekmiabmkaaDoorCards
import Derived.ProofKit
import Derived.LaidMore
import Derived.OpenShut
import Derived.Stop.Joined
import Derived.SevenTiedAt
set_option linter.unusedVariables false
set_option linter.unusedSimpArgs false
namespace Go.Proofs.YtiecdekmiabmkaaDoor
open Go Go.Abs Go.ChangeShapes Go.WideShapes Go.ChangeAt Go.WideMaps Go.WideElems Go.RowKit

abbrev laidAll : List (String × DataW Unit) := [("math/bits.deBruijn32tab", Rows.laid_math_bits_deBruijn32tab), ("math/bits.deBruijn64tab", Rows.laid_math_bits_deBruijn64tab), ("internal/strconv.uint64pow10", Rows.laid_internal_strconv_uint64pow10)]
set_option maxRecDepth 100000 in
theorem door_met (os : Os) (args : Array Value) : laidMetH Tryd.prog laidAll ((World.doorLaid Tryd.prog 29 os).forCall (fun _ _ => 0) ⟨#[], args, []⟩).memory :=
  laidMetH_of_parts3 (fuel := 8) (laidMet_of_run' 8 (by kernel_rfl) (by kernel_rfl)) (by kernel_rfl) (by kernel_rfl)
theorem pow_data : (Rows.laid_internal_strconv_uint64pow10 : DataW Unit) = Go.Lib.tabData .u64 Go.Lib.pow10Tab := by kernel_rfl
theorem pow_of_laid {W : World} (h : laidMetH Tryd.prog laidAll W) : ∃ el fz, W.heap[1]? = some (.cells (Go.Lib.pow10Tab.map fun z => Value.int .u64 z).toArray el fz) := by
  rw [MakeChecks.laidMetH_plain _ _ _ (by kernel_rfl)] at h
  obtain ⟨ps, hl, _⟩ := h
  obtain ⟨_, _, _, _, _, _, _, _, _, _, hl, _⟩ := hl
  obtain ⟨_, _, _, _, _, _, _, _, _, _, hl, _⟩ := hl
  obtain ⟨g, t, cs, fuel, p, q, hg, ht, hv, hd, _, _⟩ := hl
  obtain rfl := Option.some.inj (gPow.symm.trans hg)
  obtain rfl := Option.some.inj ((show (Tryd.prog.globals[1]?).map (·.type) = some 96 by kernel_rfl).symm.trans ht)
  rw [pow_data] at hd
  have hc := Go.Lib.cells_of_tab Tryd.underlying96 Tryd.underlying89 (by kernel_rfl) (by kernel_rfl) hd
  simp only [World.var?, gPow, Option.bind_some] at hv
  split at hv
  · rename_i cs' el fz hh
    simp only [Option.some.injEq] at hv
    subst hv
    refine ⟨el, fz, ?_⟩
    rw [hh, ← hc]
  · cases hv
theorem tab_of_laid {W : World} (h : laidMetH Tryd.prog laidAll W) : ∀ b, tabAt b = true → b < W.heap.size ∧ tabIs b W.heap[b]? := fun b hb => by
  have hb1 : b = 1 := Nat.eq_of_beq_eq_true hb
  subst hb1
  have hp := pow_of_laid h
  refine ⟨?_, fun _ => hp⟩
  obtain ⟨el, fz, hp⟩ := hp
  rcases Nat.lt_or_ge 1 W.heap.size with h | h
  · exact h
  · simp [Array.getElem?_eq_none h] at hp

set_option maxRecDepth 100000 in
theorem FnExactFormatValue_lifted (os : Os) (started : os.Started) (H : Type) (enc : TypeId × Value → H) :
    ReturnsInHanded {} Tryd.checked os 4 .any (fun w args => (Rows.fnExactFormatValueSpec.pre enc Tryd.prog Tryd.f4 [] false w args ∧ laidMetH Tryd.prog laidAll w) ∧ sizedMet enc Tryd.prog Tryd.f4 (OpenSpec.ofChange Rows.fnExactFormatValueSpec) false w args) (Rows.fnExactFormatValueSpec.post enc Tryd.prog Tryd.f4 false true false false) := by
  refine returnsInHanded_of_change_and (C := Tryd.checked) (X := fun w _ => laidMetH Tryd.prog laidAll w) (fun _ _ _ hh h => h.of_heap hh) Tryd.own started (by kernel_rfl) Tryd.func4
    (ChangeSpec.witness_shaped (enc := enc) (C := Tryd.checked) (os := os) (X := fun w _ => laidMetH Tryd.prog laidAll w) false (World.doorLaid Tryd.prog 29 os) #[.agg #[.int .i64 0, .int .i64 0, .string ⟨#[]⟩], .slice none 0 0] 8 rfl (World.shaped_of_RefB (by kernel_rfl) (by kernel_rfl)) (by kernel_rfl) (by kernel_rfl) (by kernel_rfl) (door_met os _)) ?_
  intro W base args ds gs before hval0 hW _ _ hL _
  have hval : ∀ (j : Nat) t v, Tryd.f4.params[j]? = some t → args[j]? = some v → Value.okWide Tryd.prog W .any base t v := hval0
  have hW' := hW
  obtain ⟨p, q, hA0, hV, rfl, hfz, hnd⟩ := hW
  have hA : DataW.TrodAll enc Tryd.prog W 0 (fun _ => true) true Tryd.f4.params.toList args.toList ds p := hA0
  rw [Tryd.params4] at hA hval
  obtain ⟨v0, v1, d0, d1, p0, p1, rfl, rfl, rfl, h0, h1⟩ := trodAll_two hA
  obtain ⟨rfl, rfl⟩ := trodVars_none hV
  obtain ⟨x0, w0, r0⟩ := decA_T25 H enc (Ctx.start W) W base v0 d0 _ (start_good W) (hval 0 25 v0 rfl rfl) h0
  obtain ⟨x1, w1, r1⟩ := decA_T26 H enc (Ctx.start W) W base v1 d1 _ (start_good W) (hval 1 26 v1 rfl rfl) h1
  refine (law_calls (w_FnExactFormatValue_ok x0 x1 true (w_FnExactFormatValue_true x0 x1 w0 w1)) (.cons r0 (.cons r1 .nil)) (tab_of_laid hL)).mono ?_
  rintro e W' ⟨v, rfl, hv, A⟩
  exact ⟨v, rfl, post_true hW' rfl Tryd.laidOut (by kernel_rfl) (by kernel_rfl) Tryd.underlying4 rfl A hv⟩

theorem FnExactFormatValue_holds : Rows.FnExactFormatValueSaid :=
  OpenClaim.holds_of_wide 4 Tryd.f4 rfl rfl rfl rfl rfl rfl rfl ⟨rfl, rfl, rfl, rfl, rfl⟩ rfl rfl rfl rfl rfl (by kernel_rfl) Tryd.func4 (by kernel_rfl)
    (of_decide_eq_true (by kernel_rfl)) (by unfold Func.isWrapper; first | (rw [if_pos (by decide +kernel)]; kernel_rfl) | (rw [if_neg (by decide +kernel)]; exact ⟨rfl, rfl⟩))
    (fun os started H enc _ => FnExactFormatValue_lifted os started H enc)
theorem FnExactFormatValue_card : Rows.FnExactFormatValueCardSaid :=
  Claim7.holds_tied_plain_at .later [] [.data, .data, .data] true (true, "80ca047caf73b34875290d83eaa16c118e5e277581385519c430ffc9b252f019") false
    FnExactFormatValue_holds (fun _ h => by cases h) (by kernel_rfl) (fun _ h => by cases h) fnExactFormatValue_row_tie rfl ⟨rfl, rfl⟩ (by kernel_rfl) rfl
    (fun f fn hf hfn => by
      obtain rfl : f = 4 := Option.some.inj ((show Tryd.prog.funcNamed "loop.example/g03220/laws.FnExactFormatValue" = some 4 by kernel_rfl).symm.trans hf) |>.symm
      obtain rfl : fn = Tryd.f4 := (Option.some.inj (Tryd.func4.symm.trans hfn)).symm
      exact ⟨by kernel_rfl, fun j t ht => by
        rw [Tryd.params4] at ht
        have hm : t ∈ [25, 26] := by simpa using Array.mem_of_getElem? ht
        have hall : ([25, 26].all fun u => !Tryd.prog.wantsStandIn u) = true := by kernel_rfl
        exact (show Tryd.prog.wantsStandIn t = false by simpa using List.all_eq_true.1 hall t hm)⟩)
    (by kernel_rfl)

end Go.Proofs.YtiecdekmiabmkaaDoor
