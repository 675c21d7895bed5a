/-
  FnRecursion: the law's function returns true, whatever the input. Conditions: none.
-/
import Derived.Test.YtbdmleibanpfnaaGreatDoorRLaw
import Derived.Test.YtbdmleibanpfnaaGreatDoorRCl
import Derived.Test.YtbdmleibanpfnaaGreatDoorLibE
import Derived.Test.YtbdmleibanpfnaaGreatDoorTie
import Derived.Test.YtbdmleibanpfnaaGreatDoorCards
import Derived.ProofKit
import Derived.LaidMore
import Derived.OpenShut
import Derived.Stop.Joined
import Derived.SevenTiedAt
import Derived.Shelf.Vars
import Derived.LaidLaws
import Derived.Lay
import Derived.MakeChecks
set_option linter.all false
set_option linter.unusedVariables false
set_option linter.unusedSimpArgs false
namespace Go.Proofs.YtbdmleibanpfnaaGreatDoor
open Go Go.X1 Go.ChangeShapes Go.WideShapes Go.ChangeAt Go.WideMaps Go.WideElems Go.RowKit
abbrev laidAll : List (String × DataW Unit) := [("math/bits.deBruijn32tab", Rows.laid_math_bits_deBruijn32tab), ("math/bits.deBruijn64tab", Rows.laid_math_bits_deBruijn64tab), ("internal/strconv.uint64pow10", Rows.laid_internal_strconv_uint64pow10), ("loop.example/g03220/impl.opNames", Rows.laid_loop_example_g03220_impl_opNames)]
set_option maxRecDepth 100000 in
theorem door_met (os : Os) (args : Array Value) : laidMetH Tryz.prog laidAll ((World.laidAll Tryz.prog os laidAll).forCall (fun _ _ => 0) ⟨#[], args, []⟩).memory := by
  rw [MakeChecks.laidMetH_plain _ _ _ (by kernel_rfl)]
  exact laidMet_laidAll _ (by kernel_rfl) (by kernel_rfl)
theorem pow_data : (Rows.laid_internal_strconv_uint64pow10 : DataW Unit) = Go.Lib.tabData .u64 Go.Lib.pow10Tab := by kernel_rfl
theorem pow_of_laid {W : World} (h : laidMetH Tryz.prog laidAll W) : ∃ el fz, W.heap[1]? = some (.cells (Go.Lib.pow10Tab.map fun z => Value.int .u64 z).toArray el fz) := by
  rw [MakeChecks.laidMetH_plain _ _ _ (by kernel_rfl)] at h
  obtain ⟨ps, hl, _⟩ := h
  obtain ⟨_, _, _, _, _, _, _, _, _, _, hl, _⟩ := hl
  obtain ⟨_, _, _, _, _, _, _, _, _, _, hl, _⟩ := hl
  obtain ⟨g, t, cs, fuel, p, q, hg, ht, hv, hd, _, _⟩ := hl
  obtain rfl := Option.some.inj (gPow.symm.trans hg)
  obtain rfl := Option.some.inj ((show (Tryz.prog.globals[1]?).map (·.type) = some 373 by kernel_rfl).symm.trans ht)
  rw [pow_data] at hd
  have hc := Go.Lib.cells_of_tab Tryz.underlying373 Tryz.underlying329 (by kernel_rfl) (by kernel_rfl) hd
  simp only [World.var?, gPow, Option.bind_some] at hv
  split at hv
  · rename_i cs' el fz hh
    simp only [Option.some.injEq] at hv
    subst hv
    refine ⟨el, fz, ?_⟩
    rw [hh, ← hc]
  · cases hv
theorem Tryz.laidOut : laidOutB Tryz.prog = true := by kernel_rfl
theorem Tryz.own : ownKnob Tryz.prog.godebug = none := by kernel_rfl
set_option maxRecDepth 100000 in
theorem FnRecursion_lifted (os : Os) (started : os.Started) (H : Type) (enc : TypeId × Value → H) :
    ReturnsInHanded {} Tryz.checked os 10 .any (fun w args => (Rows.fnRecursionSpec.pre enc Tryz.prog Tryz.f10 [] false w args ∧ laidMetH Tryz.prog laidAll w) ∧ sizedMet enc Tryz.prog Tryz.f10 (OpenSpec.ofChange Rows.fnRecursionSpec) false w args) (Rows.fnRecursionSpec.post enc Tryz.prog Tryz.f10 false true false false) := by
  refine row_of_law (C := Tryz.checked) (X := fun w => laidMetH Tryz.prog laidAll w) (fun _ _ hh h => h.of_heap hh) Tryz.own started (by kernel_rfl) Tryz.func10
    (ChangeSpec.witness_shaped (enc := enc) (C := Tryz.checked) (os := os) (X := fun w _ => laidMetH Tryz.prog laidAll w) false (World.laidAll Tryz.prog os laidAll) #[.slice none 0 0] 8 (World.laidAll_os _ _ _) (World.shaped_of_ZipB (by kernel_rfl) (by kernel_rfl)) (by kernel_rfl) (by kernel_rfl) (by kernel_rfl) (door_met os _)) ?_
  intro W base args ds gs before hval0 hW hL hsh
  have hW' := hW
  obtain ⟨p, q, hA0, hV, rfl, hfz, hnd⟩ := hW
  have hA : DataW.TrodAll enc Tryz.prog W 0 (fun _ => true) true Tryz.f10.params.toList args.toList ds p := hA0
  have hp : Tryz.f10.params = #[22] := by kernel_rfl
  rw [hp] at hA
  have hval : ∀ (j : Nat) t v, (#[22] : Array TypeId)[j]? = some t → args[j]? = some v → Value.okWide Tryz.prog W .any base t v := by rw [← hp]; exact hval0
  obtain ⟨v0, vs1, d0, ds1, p1, p2, e1, rfl, rfl, h0, h1⟩ := trodAll_cons hA
  obtain ⟨rfl, rfl, rfl⟩ := trodAll_nil h1
  obtain rfl : args = #[v0] := by
    obtain ⟨l⟩ := args
    exact congrArg Array.mk e1
  obtain ⟨_, _, _, _, dv, _, rfl, _, _, _, _, _⟩ := trodVars_one hV
  obtain ⟨bs, hi⟩ := inp_of Tryz.underlying22 Tryz.underlying5 (by kernel_rfl) (hval 0 _ _ rfl rfl) h0
  refine (law ⟨pow_of_laid hL⟩ hi).mono ?_
  rintro e W' ⟨rfl, A⟩
  exact ⟨_, rfl, post_true hW' (by kernel_rfl) Tryz.laidOut (by kernel_rfl) (by kernel_rfl) Tryz.underlying4 rfl A rfl⟩
theorem FnRecursion_holds : Rows.FnRecursionSaid :=
  OpenClaim.holds_of_wide 10 Tryz.f10 rfl rfl rfl rfl rfl rfl rfl ⟨rfl, rfl, rfl, rfl, rfl⟩ rfl rfl rfl rfl rfl cfn Tryz.func10 closed
    (of_decide_eq_true (by kernel_rfl)) (by unfold Func.isWrapper; first | (rw [if_pos (by decide +kernel)]; kernel_rfl) | (rw [if_neg (by decide +kernel)]; exact ⟨rfl, rfl⟩))
    (fun os started H enc _ => FnRecursion_lifted os started H enc)
theorem FnRecursion_params : Tryz.f10.params = #[22] := by kernel_rfl
theorem one_of {t x : TypeId} {j : Nat} (h : (#[x] : Array TypeId)[j]? = some t) : t = x := by
  cases j with
  | zero => simpa using h.symm
  | succ j => simp at h
theorem FnRecursion_card : Rows.FnRecursionCardSaid :=
  Claim7.holds_tied_plain_at .later [] [.data, .data, .data, .data] true (true, "12db2fdf5f1fb5c458738718145fc5726b1a51dc0347fecbd42723abeb9fdacc") true
    FnRecursion_holds (fun _ h => by cases h) cw (fun _ h => by cases h) fnRecursion_row_tie rfl ⟨rfl, rfl⟩ cm rfl
    (fun f fn hf hfn => by
      have e1 : f = 10 := Option.some.inj (hf.symm.trans cfn)
      subst e1
      have e2 : fn = Tryz.f10 := Option.some.inj (hfn.symm.trans Tryz.func10)
      subst e2
      exact ⟨clk, fun j t ht => by
        rw [FnRecursion_params] at ht
        have e3 := one_of ht
        subst e3
        exact csi⟩)
    cgo
end Go.Proofs.YtbdmleibanpfnaaGreatDoor
