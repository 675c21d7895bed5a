/-
  FnExactNewSession: the law's function returns true. Conditions: none.
-/
import Derived.Test.YtnafaglnbfcknaaGreatDoorNF
import Derived.Test.YtnafaglnbfcknaaGreatDoorNV
import Derived.Test.YtnafaglnbfcknaaGreatDoorLibD
import Derived.Test.YtnafaglnbfcknaaGreatDoorTie
import Derived.Test.YtnafaglnbfcknaaGreatDoorCards
import Derived.ProofKit
import Derived.LaidMore
import Derived.OpenShut
import Derived.Stop.Joined
import Derived.SevenTiedAt
import Derived.Shelf.Vars
import Derived.LaidLaws
set_option linter.all false
set_option linter.unusedVariables false
set_option linter.unusedSimpArgs false
namespace Go.Proofs.YtnafaglnbfcknaaGreatDoor
open Go Go.X1 Go.ChangeShapes Go.WideShapes Go.ChangeAt Go.WideMaps Go.WideElems Go.RowKit
abbrev laidAll : List (String × DataW Unit) := [("math/bits.deBruijn32tab", Rows.laid_math_bits_deBruijn32tab), ("math/bits.deBruijn64tab", Rows.laid_math_bits_deBruijn64tab), ("internal/strconv.uint64pow10", Rows.laid_internal_strconv_uint64pow10), ("strconv.ErrRange", Rows.laid_strconv_ErrRange), ("strconv.ErrSyntax", Rows.laid_strconv_ErrSyntax)]
set_option maxRecDepth 100000 in
theorem door_met (os : Os) (args : Array Value) : laidMetH Tryz.prog laidAll ((World.doorLaid Tryz.prog 62 os).forCall (fun _ _ => 0) ⟨#[], args, []⟩).memory :=
  laidMetH_of_parts3 (fuel := 8) (laidMet_of_run' 8 (by kernel_rfl) (by kernel_rfl)) (by kernel_rfl) (by kernel_rfl)
theorem pow_data : (Rows.laid_internal_strconv_uint64pow10 : DataW Unit) = Go.Lib.tabData .u64 Go.Lib.pow10Tab := by kernel_rfl
theorem pow_of_laid {W : World} (h : laidMetH Tryz.prog laidAll W) : ∃ el fz, W.heap[3]? = some (.cells (Go.Lib.pow10Tab.map fun z => Value.int .u64 z).toArray el fz) := by
  rw [MakeChecks.laidMetH_plain _ _ _ (by kernel_rfl)] at h
  obtain ⟨ps, hl, _⟩ := h
  obtain ⟨_, _, _, _, _, _, _, _, _, _, hl, _⟩ := hl
  obtain ⟨_, _, _, _, _, _, _, _, _, _, hl, _⟩ := hl
  obtain ⟨g, t, cs, fuel, p, q, hg, ht, hv, hd, _, _⟩ := hl
  obtain rfl := Option.some.inj (gPow.symm.trans hg)
  obtain rfl := Option.some.inj ((show (Tryz.prog.globals[3]?).map (·.type) = some 209 by kernel_rfl).symm.trans ht)
  rw [pow_data] at hd
  have hc := Go.Lib.cells_of_tab Tryz.underlying209 Tryz.underlying190 (by kernel_rfl) (by kernel_rfl) hd
  simp only [World.var?, gPow, Option.bind_some] at hv
  split at hv
  · rename_i cs' el fz hh
    simp only [Option.some.injEq] at hv
    subst hv
    refine ⟨el, fz, ?_⟩
    rw [hh, ← hc]
  · cases hv
theorem Tryz.laidOut : laidOutB Tryz.prog = true := by kernel_rfl
theorem Tryz.own : ownKnob Tryz.prog.godebug = none := by kernel_rfl
theorem gErr : Tryz.prog.globalNamed "strconv.ErrSyntax" = some 1 := by kernel_rfl
theorem err_of_laid {W : World} (h : laidMetH Tryz.prog laidAll W) : ∃ ev el fz, W.heap[1]? = some (.cells #[ev] el fz) ∧ (ev = .nilIface ∨ ∃ te pe, ev = .iface te pe) := by
  rw [MakeChecks.laidMetH_plain _ _ _ (by kernel_rfl)] at h
  obtain ⟨ps, hl, _⟩ := h
  obtain ⟨_, _, _, _, _, _, _, _, _, _, hl, _⟩ := hl
  obtain ⟨_, _, _, _, _, _, _, _, _, _, hl, _⟩ := hl
  obtain ⟨_, _, _, _, _, _, _, _, _, _, hl, _⟩ := hl
  obtain ⟨_, _, _, _, _, _, _, _, _, _, hl, _⟩ := hl
  obtain ⟨g, t, cs, fuel, p, q, hg, ht, hv, hd, _, _⟩ := hl
  obtain rfl := Option.some.inj (gErr.symm.trans hg)
  obtain rfl := Option.some.inj ((show (Tryz.prog.globals[1]?).map (·.type) = some 135 by kernel_rfl).symm.trans ht)
  obtain ⟨f1, u, v, hcs, _, _⟩ := iface_of_trod Tryz.underlying135 hd
  simp only [World.var?, gErr, Option.bind_some] at hv
  split at hv
  · rename_i cs' el fz hh
    simp only [Option.some.injEq] at hv
    subst hv
    have hc : cs' = #[.iface u v] := by
      cases cs' with
      | mk l => simpa using hcs
    subst hc
    exact ⟨_, el, fz, hh, .inr ⟨_, _, rfl⟩⟩
  · cases hv
set_option maxRecDepth 100000 in
theorem FnExactNewSession_lifted (os : Os) (started : os.Started) (H : Type) (enc : TypeId × Value → H) :
    ReturnsInHanded {} Tryz.checked os 3 .any (fun w args => (Rows.fnExactNewSessionSpec.pre enc Tryz.prog Tryz.f3 [] false w args ∧ laidMetH Tryz.prog laidAll w) ∧ sizedMet enc Tryz.prog Tryz.f3 (OpenSpec.ofChange Rows.fnExactNewSessionSpec) false w args) (Rows.fnExactNewSessionSpec.post enc Tryz.prog Tryz.f3 false true false false) := by
  refine row_of_law (C := Tryz.checked) (X := fun w => laidMetH Tryz.prog laidAll w) (fun _ _ hh h => h.of_heap hh) Tryz.own started (by kernel_rfl) Tryz.func3
    (ChangeSpec.witness_shaped (enc := enc) (C := Tryz.checked) (os := os) (X := fun w _ => laidMetH Tryz.prog laidAll w) false (World.doorLaid Tryz.prog 62 os) #[] 8 rfl (World.shaped_of_RefB (by kernel_rfl) (by kernel_rfl)) (by kernel_rfl) (by kernel_rfl) (by kernel_rfl) (door_met os _)) ?_
  intro W base args ds gs before hval0 hW hL hsh
  have hW' := hW
  obtain ⟨p, q, hA0, hV, rfl, hfz, hnd⟩ := hW
  have hA : DataW.TrodAll enc Tryz.prog W 0 (fun _ => true) true Tryz.f3.params.toList args.toList ds p := hA0
  have hp : Tryz.f3.params.toList = [] := by kernel_rfl
  rw [hp] at hA
  obtain ⟨ha, rfl, rfl⟩ := trodAll_nil hA
  obtain rfl : args = #[] := by
    obtain ⟨l⟩ := args
    exact congrArg Array.mk ha
  obtain ⟨rfl, rfl⟩ := trodVars_none hV
  refine (law_of (run_ok ⟨pow_of_laid hL, err_of_laid hL⟩ 100) ev).2.mono ?_
  rintro e W' ⟨rfl, A⟩
  exact ⟨_, rfl, post_true hW' rfl Tryz.laidOut (by kernel_rfl) (by kernel_rfl) Tryz.underlying4 rfl A rfl⟩
theorem FnExactNewSession_holds : Rows.FnExactNewSessionSaid :=
  OpenClaim.holds_of_wide 3 Tryz.f3 rfl rfl rfl rfl rfl rfl rfl ⟨rfl, rfl, rfl, rfl, rfl⟩ rfl rfl rfl rfl rfl (by kernel_rfl) Tryz.func3 (by kernel_rfl)
    (of_decide_eq_true (by kernel_rfl)) (by unfold Func.isWrapper; first | (rw [if_pos (by decide +kernel)]; kernel_rfl) | (rw [if_neg (by decide +kernel)]; exact ⟨rfl, rfl⟩))
    (fun os started H enc _ => FnExactNewSession_lifted os started H enc)
theorem FnExactNewSession_card : Rows.FnExactNewSessionCardSaid :=
  Claim7.holds_tied_plain_at .later [] [.data, .data, .data, .sentinel, .sentinel] true (true, "9c790f3ea40c404f6d3da75c73c51d92c7a2f8d70aa234b7c76ae4d554a170a9") true
    FnExactNewSession_holds (fun _ h => by cases h) (by kernel_rfl) (fun _ h => by cases h) fnExactNewSession_row_tie rfl ⟨rfl, rfl⟩ (by kernel_rfl) rfl
    (fun f fn hf hfn => by
      obtain rfl : f = 3 := Option.some.inj ((show Tryz.prog.funcNamed "loop.example/g03220/laws.FnExactNewSession" = some 3 by kernel_rfl).symm.trans hf) |>.symm
      obtain rfl : fn = Tryz.f3 := (Option.some.inj (Tryz.func3.symm.trans hfn)).symm
      exact ⟨by kernel_rfl, fun j t ht => by
        have hp : Tryz.f3.params.toList = [] := by kernel_rfl
        have hm : t ∈ Tryz.f3.params.toList := by simpa using Array.mem_of_getElem? ht
        rw [hp] at hm
        cases hm⟩)
    (by kernel_rfl)
end Go.Proofs.YtnafaglnbfcknaaGreatDoor
