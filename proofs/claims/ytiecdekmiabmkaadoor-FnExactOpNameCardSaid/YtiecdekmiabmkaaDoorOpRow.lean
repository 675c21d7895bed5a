/-
  The row of FnExactOpName and its card. Made by wip/opname/opname.py.
-/
import Derived.Test.YtiecdekmiabmkaaDoorOpA
import Derived.Test.YtiecdekmiabmkaaDoorTie
import Derived.Test.YtiecdekmiabmkaaDoorCards
import Derived.ProofKit
import Derived.LaidMore
import Derived.OpenShut
import Derived.Stop.Joined
import Derived.SevenTiedAt
set_option linter.unusedVariables false
set_option linter.unusedSimpArgs false
namespace Go.Proofs.YtiecdekmiabmkaaDoor
open Go Go.ChangeShapes Go.WideShapes Go.ChangeAt Go.WideMaps Go.WideElems Go.RowKit

abbrev opLaid : List (String × DataW Unit) := [("loop.example/g03220/impl.opNames", Rows.laid_loop_example_g03220_impl_opNames)]
theorem ownOp : ownKnob Tryd.prog.godebug = none := by kernel_rfl
theorem gOp : Tryd.prog.globalNamed "loop.example/g03220/impl.opNames" = some 0 := by kernel_rfl
theorem tOp : (Tryd.prog.globals[0]?).map (·.type) = some 53 := by kernel_rfl
theorem laidOutOp : laidOutB Tryd.prog = true := by kernel_rfl
set_option maxRecDepth 100000 in
theorem door_met (os : Os) (args : Array Value) : laidMetH Tryd.prog opLaid ((World.doorLaid Tryd.prog 29 os).forCall (fun _ _ => 0) ⟨#[], args, []⟩).memory :=
  laidMetH_of_parts3 (fuel := 8) (laidMet_of_run' 8 (by kernel_rfl) (by kernel_rfl)) (by kernel_rfl) (by kernel_rfl)

def opStrings : List (List UInt8) := [[99, 111, 110, 115, 116, 97, 110, 116], [112, 114, 105, 109, 105, 116, 105, 118, 101], [108, 111, 99, 97, 108], [99, 97, 112, 116, 117, 114, 101, 100], [114, 101, 97, 100, 45, 108, 111, 99, 97, 108], [114, 101, 97, 100, 45, 98, 111, 120], [119, 114, 105, 116, 101, 45, 108, 111, 99, 97, 108], [119, 114, 105, 116, 101, 45, 98, 111, 120], [110, 101, 119, 45, 98, 111, 120], [98, 111, 120, 45, 112, 97, 114, 97, 109], [99, 108, 111, 115, 117, 114, 101], [99, 97, 108, 108], [116, 97, 105, 108, 45, 99, 97, 108, 108], [114, 101, 116, 117, 114, 110], [106, 117, 109, 112], [106, 117, 109, 112, 45, 105, 102, 45, 102, 97, 108, 115, 101], [112, 111, 112], [114, 101, 115, 101, 116], [115, 104, 105, 102, 116], [101, 110, 116, 101, 114]]
theorem of_laid {W : World} (h : laidMetH Tryd.prog opLaid W) : ∀ (i : Nat) s, opStrings[i]? = some s → W.cell? ⟨0, i, none⟩ = some (.string ⟨s.toArray⟩) := by
  rw [MakeChecks.laidMetH_plain _ _ _ (by kernel_rfl)] at h
  obtain ⟨ps, ⟨g0, t0, cs0, f0, p0, q0, hg0, ht0, hv0, hd0, _⟩, _⟩ := h
  obtain rfl := Option.some.inj (gOp.symm.trans hg0)
  obtain rfl := Option.some.inj (tOp.symm.trans ht0)
  obtain ⟨xs, m1, rfl, hx1, hlen, hn, hel⟩ := DataW.trod_array Tryd.underlying53 hd0
  have c9 : Tryd.prog.cellsOf 9 = 1 := by kernel_rfl
  have hx : xs.map (·.1) = opStrings.map fun s => DataW.lit (.string s) := by
    simp only [Prod.mk.injEq] at hx1
    have h := hx1.1
    unfold Rows.laid_loop_example_g03220_impl_opNames at h
    simp only [DataW.agg.injEq] at h
    rw [← h]; rfl
  intro i s hs
  have hi : i < 20 := by
    rcases Nat.lt_or_ge i opStrings.length with h | h
    · exact h
    · simp [List.getElem?_eq_none h] at hs
  have he := hel i hi
  rw [c9] at he
  have hxi : xs[i]?.map (·.1) = some (.lit (.string s)) := by
    rw [← List.getElem?_map, hx, List.getElem?_map, hs]; rfl
  cases hxs : xs[i]? with
  | none => simp [hxs] at hxi
  | some x =>
    rw [hxs] at he hxi
    simp only [Option.map_some, Option.some.injEq] at hxi
    obtain ⟨s', e1, e2, _⟩ := DataW.trod_string Tryd.underlying9 he
    have hc := World.var?_cell hg0 hv0 i
    rw [hc]
    rw [e2] at hxi
    simp only [DataW.lit.injEq, Lit.string.injEq] at hxi
    have h1 : cs0[i]? = some (.string s') := by
      have := congrArg (·[0]?) e1
      simpa [List.getElem?_take, List.getElem?_drop] using this
    rw [h1, ← hxi]

/-- What the law's run leaves. -/
theorem post_op {H : Type} {enc : TypeId × Value → H} {W W' : World} {n : Int} {g1 : DataW H} {before : List MemPlace}
    (hW : DataW.Whole enc Tryd.prog Tryd.f3.params.toList Rows.fnExactOpNameSpec.vars false W [.int .i64 n] [.lit (.int .i64 n)] [g1] before)
    (hn : (Lit.int .i64 n).wf = true) (A : Keeps W W') : Rows.fnExactOpNameSpec.post enc Tryd.prog Tryd.f3 false true false false W #[.int .i64 n] (.bool true) W' := by
  obtain ⟨p, q, hA, hV, rfl, hfz, hnd⟩ := hW
  have hV' := hV
  obtain ⟨g, t, cs, fuel, d, p', hg, e1, e2, e3, e4, rfl⟩ := trodVars_one hV
  simp only [List.cons.injEq, and_true] at hg
  subst hg
  obtain rfl := Option.some.inj (gOp.symm.trans e1)
  obtain rfl := Option.some.inj (tOp.symm.trans e2)
  have hp : p = [] := by
    obtain ⟨v0, d0, r1, r2, r3⟩ := trodAll_one hA
    simp only [List.cons.injEq, and_true] at r2
    have r1' : v0 = Value.int .i64 n := by have := congrArg (·[0]?) r1; simpa using this.symm
    subst r1'; subst r2
    obtain ⟨f, hf⟩ := r3
    obtain ⟨n', _, hx, _⟩ := DataW.trod_int Tryd.underlying3 hf
    simp only [Prod.mk.injEq] at hx
    exact hx.2
  subst hp
  have hb0 : 0 < W.heap.size := by
    rcases Nat.lt_or_ge 0 W.heap.size with h | h
    · exact h
    · simp [World.var?, gOp, Array.getElem?_eq_none h] at e3
  have hvar : W'.var? Tryd.prog "loop.example/g03220/impl.opNames" = some cs := by
    rw [← e3]
    simp only [World.var?, gOp, Option.bind_some, A.heap 0 hb0]
  have hlt : ∀ x ∈ p', x.block < W.heap.size := fun x hx => DataW.trod_lt _ _ _ _ e4 x hx
  have hkeep : ∀ x : MemPlace, x.block < W.heap.size → W.sameAt W' x := fun x hx => by
    have := A.heap x.block hx
    cases x with
    | cell b o =>
      show W'.cell? ⟨b, o, none⟩ = W.cell? ⟨b, o, none⟩
      unfold World.cell?
      simp [show W'.heap[b]? = W.heap[b]? by simpa [MemPlace.block] using this]
    | map b => simpa [MemPlace.block, World.sameAt] using this
  refine ⟨[.lit (.int .i64 n)], [g1], _, [], [], MemPlace.row ⟨0, 0, none⟩ cs.size ++ p', ⟨[], _, hA, hV', rfl, hfz, hnd⟩, ?_, ?_, ?_, ?_, fun h => by cases h⟩
  · exact trodAll_mk1 (RowKit.shut_bool Tryd.underlying4 true)
  · exact trodAll_mk1 (shut_int Tryd.underlying3 hn)
  · refine trodVars_mk1 gOp tOp hvar (DataW.trod_stays (kids_book laidOutOp (t0 := 53) (by kernel_rfl)) (book_sized (by kernel_rfl)) (fun h => by cases h) ⟨of_decide_eq_true (by kernel_rfl), book_self 53⟩ e4 (fun x hx => hkeep x (hlt x hx)) (fun x hx => by simpa using hlt x hx))
  · refine ⟨A.os, A.out, fun i hi => ?_⟩
    rw [A.heap i hi]
    split
    · rename_i h1 h2
      rw [h1] at h2
      simp only [Option.some.injEq, Obj.cells.injEq] at h2
      obtain ⟨rfl, rfl, rfl⟩ := h2
      exact ⟨rfl, rfl, rfl, fun _ _ => rfl⟩
    · rename_i h1 h2
      rw [h1] at h2
      simp only [Option.some.injEq, Obj.map.injEq] at h2
      exact .inr ⟨h2.1.symm, h2.2.symm⟩
    · rfl

theorem law_all (W : World) (n : Int) (h : ∀ (i : Nat) s, opStrings[i]? = some s → W.cell? ⟨0, i, none⟩ = some (.string ⟨s.toArray⟩)) : Calls Tryd.prog 3 #[.int .i64 n] W fun e w' => e = .returned (.bool true) ∧ Keeps W w' := by
  by_cases h1 : n < 1
  · exact law_lo W n h1
  by_cases h2 : 20 < n
  · exact law_hi W n (by omega) h2
  have hn : n = 1 ∨ n = 2 ∨ n = 3 ∨ n = 4 ∨ n = 5 ∨ n = 6 ∨ n = 7 ∨ n = 8 ∨ n = 9 ∨ n = 10 ∨ n = 11 ∨ n = 12 ∨ n = 13 ∨ n = 14 ∨ n = 15 ∨ n = 16 ∨ n = 17 ∨ n = 18 ∨ n = 19 ∨ n = 20 := by omega
  rcases hn with rfl | rfl | rfl | rfl | rfl | rfl | rfl | rfl | rfl | rfl | rfl | rfl | rfl | rfl | rfl | rfl | rfl | rfl | rfl | rfl
  · exact law_1 W (h 0 _ rfl)
  · exact law_2 W (h 1 _ rfl)
  · exact law_3 W (h 2 _ rfl)
  · exact law_4 W (h 3 _ rfl)
  · exact law_5 W (h 4 _ rfl)
  · exact law_6 W (h 5 _ rfl)
  · exact law_7 W (h 6 _ rfl)
  · exact law_8 W (h 7 _ rfl)
  · exact law_9 W (h 8 _ rfl)
  · exact law_10 W (h 9 _ rfl)
  · exact law_11 W (h 10 _ rfl)
  · exact law_12 W (h 11 _ rfl)
  · exact law_13 W (h 12 _ rfl)
  · exact law_14 W (h 13 _ rfl)
  · exact law_15 W (h 14 _ rfl)
  · exact law_16 W (h 15 _ rfl)
  · exact law_17 W (h 16 _ rfl)
  · exact law_18 W (h 17 _ rfl)
  · exact law_19 W (h 18 _ rfl)
  · exact law_20 W (h 19 _ rfl)

set_option maxRecDepth 100000 in
theorem lifted (os : Os) (started : os.Started) (H : Type) (enc : TypeId × Value → H) :
    ReturnsInHanded {} Tryd.checked os 3 .any (fun w args => (Rows.fnExactOpNameSpec.pre enc Tryd.prog Tryd.f3 [] false w args ∧ laidMetH Tryd.prog opLaid w) ∧ sizedMet enc Tryd.prog Tryd.f3 (OpenSpec.ofChange Rows.fnExactOpNameSpec) false w args)
      (Rows.fnExactOpNameSpec.post enc Tryd.prog Tryd.f3 false true false false) := by
  refine returnsInHanded_of_change_and (C := Tryd.checked) (X := fun w _ => laidMetH Tryd.prog opLaid w) (fun _ _ _ hh h => h.of_heap hh) ownOp started (by kernel_rfl) Tryd.func3
    (ChangeSpec.witness_shaped (enc := enc) (C := Tryd.checked) (os := os) (X := fun w _ => laidMetH Tryd.prog opLaid w) false (World.doorLaid Tryd.prog 29 os) #[.int .i64 0] 8 rfl (World.shaped_of_RefB (by kernel_rfl) (by kernel_rfl)) (by kernel_rfl) (by kernel_rfl) (by kernel_rfl) (door_met os _)) ?_
  intro W base args ds gs before hval0 hW _ _ hL _
  have hval : ∀ (j : Nat) t v, Tryd.f3.params[j]? = some t → args[j]? = some v → Value.okWide Tryd.prog W .any base t v := hval0
  have hW' := hW
  obtain ⟨p, q, hA0, hV, rfl, hfz, hnd⟩ := hW
  have hA : DataW.TrodAll enc Tryd.prog W 0 (fun _ => true) true Tryd.f3.params.toList args.toList ds p := hA0
  rw [Tryd.params3] at hA hval
  obtain ⟨v0, d0, rfl, rfl, h0⟩ := trodAll_one hA
  obtain ⟨n, rfl, rfl, rfl, hn⟩ := open_int Tryd.underlying3 (hval 0 3 v0 rfl rfl) h0
  obtain ⟨g, t, cs, fuel, d, p', rfl, _⟩ := trodVars_one hV
  refine (law_all W n (of_laid hL)).mono fun e W' ⟨he, hw⟩ => ?_
  subst he
  exact ⟨_, rfl, post_op hW' hn hw⟩

theorem FnExactOpName_holds : Rows.FnExactOpNameSaid :=
  OpenClaim.holds_of_wide 3 Tryd.f3 rfl rfl rfl rfl rfl rfl rfl ⟨rfl, rfl, rfl, rfl, rfl⟩ rfl rfl rfl rfl rfl (by kernel_rfl) Tryd.func3 (by kernel_rfl)
    (of_decide_eq_true (by kernel_rfl)) (by unfold Func.isWrapper; first | (rw [if_pos (by decide +kernel)]; kernel_rfl) | (rw [if_neg (by decide +kernel)]; exact ⟨rfl, rfl⟩))
    (fun os started H enc _ => lifted os started H enc)
theorem FnExactOpName_card : Rows.FnExactOpNameCardSaid :=
  Claim7.holds_tied_plain_at .later [] [.data] true (true, "80ca047caf73b34875290d83eaa16c118e5e277581385519c430ffc9b252f019") false
    FnExactOpName_holds (fun _ h => by cases h) (by kernel_rfl) (fun _ h => by cases h) fnExactOpName_row_tie rfl ⟨rfl, rfl⟩ (by kernel_rfl) rfl
    (fun f fn hf hfn => by
      obtain rfl : f = 3 := Option.some.inj ((show Tryd.prog.funcNamed "loop.example/g03220/laws.FnExactOpName" = some 3 by kernel_rfl).symm.trans hf) |>.symm
      obtain rfl : fn = Tryd.f3 := (Option.some.inj (Tryd.func3.symm.trans hfn)).symm
      exact ⟨by kernel_rfl, fun j t ht => by
        rw [Tryd.params3] at ht
        have hm : t ∈ [3] := by simpa using Array.mem_of_getElem? ht
        have hall : ([3].all fun u => !Tryd.prog.wantsStandIn u) = true := by kernel_rfl
        exact (show Tryd.prog.wantsStandIn t = false by simpa using List.all_eq_true.1 hall t hm)⟩)
    (by kernel_rfl)
end Go.Proofs.YtiecdekmiabmkaaDoor
