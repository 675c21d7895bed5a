/-
  FnExactFormatObject: for every argument the law's function returns true. Conditions: none.
-/
import Derived.Test.YtmgigglpdhoneaaGreatDoorDecFob
import Derived.Test.YtmgigglpdhoneaaGreatDoorGwI
import Derived.Test.YtmgigglpdhoneaaGreatDoorPtFob
import Derived.Test.YtmgigglpdhoneaaGreatDoorItoaD
import Derived.Test.YtmgigglpdhoneaaGreatDoorLibH
import Derived.Test.YtmgigglpdhoneaaGreatDoorTie
import Derived.Test.YtmgigglpdhoneaaGreatDoorCards
import Derived.ProofKit
import Derived.LaidMore
import Derived.OpenShut
import Derived.Stop.Joined
import Derived.SevenTiedAt
set_option linter.unusedVariables false
set_option linter.unusedSimpArgs false
namespace Go.Proofs.YtmgigglpdhoneaaGreatDoor
open Go Go.Abs Go.ChangeShapes Go.WideShapes Go.ChangeAt Go.WideMaps Go.WideElems Go.RowKit
abbrev laidAll : List (String × DataW Unit) := [("math/bits.deBruijn32tab", Rows.laid_math_bits_deBruijn32tab), ("math/bits.deBruijn64tab", Rows.laid_math_bits_deBruijn64tab), ("internal/strconv.uint64pow10", Rows.laid_internal_strconv_uint64pow10), ("loop.example/g03220/impl.opNames", Rows.laid_loop_example_g03220_impl_opNames)]
set_option maxRecDepth 100000 in
theorem door_met (os : Os) (args : Array Value) : laidMetH Tryz.prog laidAll ((World.doorLaid Tryz.prog 67 os).forCall (fun _ _ => 0) ⟨#[], args, []⟩).memory :=
 laidMetH_of_parts3 (fuel := 8) (laidMet_of_run' 8 (by kernel_rfl) (by kernel_rfl)) (by kernel_rfl) (by kernel_rfl)
theorem pow_data : (Rows.laid_internal_strconv_uint64pow10 : DataW Unit) = Go.Lib.tabData .u64 Go.Lib.pow10Tab := by kernel_rfl
theorem pow_of_laid {W : World} (h : laidMetH Tryz.prog laidAll W) : ∃ el fz, W.heap[4]? = some (.cells (Go.Lib.pow10Tab.map fun z => Value.int .u64 z).toArray el fz) := by
 rw [MakeChecks.laidMetH_plain _ _ _ (by kernel_rfl)] at h
 obtain ⟨ps, hl, _⟩ := h
 obtain ⟨_, _, _, _, _, _, _, _, _, _, hl, _⟩ := hl
 obtain ⟨_, _, _, _, _, _, _, _, _, _, hl, _⟩ := hl
 obtain ⟨g, t, cs, fuel, p, q, hg, ht, hv, hd, _, _⟩ := hl
 obtain rfl := Option.some.inj (gPow.symm.trans hg)
 obtain rfl := Option.some.inj ((show (Tryz.prog.globals[4]?).map (·.type) = some 185 by kernel_rfl).symm.trans ht)
 rw [pow_data] at hd
 have hc := Go.Lib.cells_of_tab Tryz.underlying185 Tryz.underlying163 (by kernel_rfl) (by kernel_rfl) hd
 simp only [World.var?, gPow, Option.bind_some] at hv
 split at hv
 ·rename_i cs' el fz hh
  simp only [Option.some.injEq] at hv
  subst hv
  refine ⟨el, fz, ?_⟩
  rw [hh, ← hc]
 ·cases hv
theorem gOp : Tryz.prog.globalNamed "loop.example/g03220/impl.opNames" = some 0 := by kernel_rfl
theorem tOp : (Tryz.prog.globals[0]?).map (·.type) = some 96 := by kernel_rfl
theorem ops_data : (Rows.laid_loop_example_g03220_impl_opNames : DataW Unit) = .agg (t4.map fun s => .lit (.string s)) := by rfl
theorem ops_of_laid {W : World} (h : laidMetH Tryz.prog laidAll W) : ∃ el fz, W.heap[0]? = some (.cells (t4.map fun s => Value.string ⟨s.toArray⟩).toArray el fz) := by
 rw [MakeChecks.laidMetH_plain _ _ _ (by kernel_rfl)] at h
 obtain ⟨ps, hl, _⟩ := h
 obtain ⟨_, _, _, _, _, _, _, _, _, _, hl, _⟩ := hl
 obtain ⟨_, _, _, _, _, _, _, _, _, _, hl, _⟩ := hl
 obtain ⟨_, _, _, _, _, _, _, _, _, _, hl, _⟩ := hl
 obtain ⟨g, t, cs, fuel, p, q, hg, ht, hv, hd, _, _⟩ := hl
 obtain rfl := Option.some.inj (gOp.symm.trans hg)
 obtain rfl := Option.some.inj (tOp.symm.trans ht)
 rw [ops_data] at hd
 obtain ⟨xs, m1, rfl, hx1, hlen, hn, hel⟩ := DataW.trod_array Tryz.underlying96 hd
 have c9 : Tryz.prog.cellsOf 9 = 1 := by kernel_rfl
 have hx : xs.map (·.1) = t4.map fun s => (DataW.lit (.string s) : DataW Unit) := by
  simp only [Prod.mk.injEq] at hx1
  have h := hx1.1
  simp only [DataW.agg.injEq] at h
  exact h.symm
 have hget : ∀ (i : Nat) s, t4[i]? = some s → cs[i]? = some (.string ⟨s.toArray⟩) := by
  intro i s hs
  have hi : i < 20 := by
   rcases Nat.lt_or_ge i t4.length with h | h
   ·exact h
   ·simp [List.getElem?_eq_none h] at hs
  have he := hel i hi
  rw [c9] at he
  have hxi : xs[i]?.map (·.1) = some (.lit (.string s)) := by
   rw [← List.getElem?_map, hx, List.getElem?_map, hs]; rfl
  cases hxs : xs[i]? with
  | none => simp [hxs] at hxi
  | some x =>
   rw [hxs] at he hxi
   simp only [Option.map_some, Option.some.injEq] at hxi
   obtain ⟨s', e1, e2, _⟩ := DataW.trod_string Tryz.underlying9 he
   rw [e2] at hxi
   simp only [DataW.lit.injEq, Lit.string.injEq] at hxi
   have h1 : cs[i]? = some (.string s') := by
    have := congrArg (·[0]?) e1
    simpa [List.getElem?_take, List.getElem?_drop] using this
   rw [h1, ← hxi]
 have c53 : Tryz.prog.cellsOf 96 = 20 := by kernel_rfl
 have hsz : cs.toList.length = 20 := by rw [hlen, c53]
 have hc : cs = (t4.map fun s => Value.string ⟨s.toArray⟩).toArray := by
  apply Array.ext'
  apply List.ext_getElem?
  intro i
  rcases Nat.lt_or_ge i 20 with hi | hi
  ·obtain ⟨s, hs⟩ : ∃ s, t4[i]? = some s := ⟨_, List.getElem?_eq_getElem (show i < t4.length from hi)⟩
   have := hget i s hs
   rw [Array.getElem?_toList, this]
   simp [hs]
  ·rw [List.getElem?_eq_none (by omega), List.getElem?_eq_none (by simpa using (show t4.length ≤ i from hi))]
 simp only [World.var?, gOp, Option.bind_some] at hv
 split at hv
 ·rename_i cs' el fz hh
  simp only [Option.some.injEq] at hv
  subst hv
  refine ⟨el, fz, ?_⟩
  rw [hh, ← hc]
 ·cases hv
theorem tab_of_laid {W : World} (h : laidMetH Tryz.prog laidAll W) : ∀ b, tabAt b = true → b < W.heap.size ∧ tabIs b W.heap[b]? := fun b hb => by
 have hp := pow_of_laid h
 have ho := ops_of_laid h
 have lt : ∀ {k : Nat} {o : Obj}, W.heap[k]? = some o → k < W.heap.size := fun {k o} e => by
  rcases Nat.lt_or_ge k W.heap.size with h | h
  ·exact h
  ·simp [Array.getElem?_eq_none h] at e
 have hb1 : b = 0 ∨ b = 4 := by
  simp only [tabAt, Bool.or_eq_true] at hb
  rcases hb with hb | hb
  ·exact .inl (Nat.eq_of_beq_eq_true hb)
  ·exact .inr (Nat.eq_of_beq_eq_true hb)
 rcases hb1 with rfl | rfl
 ·refine ⟨?_, And.intro (fun _ => ho) (fun e => absurd e (by decide))⟩
  obtain ⟨_, _, ho⟩ := ho; exact lt ho
 ·refine ⟨?_, And.intro (fun e => absurd e (by decide)) (fun _ => hp)⟩
  obtain ⟨_, _, hp⟩ := hp; exact lt hp
set_option maxRecDepth 100000 in
theorem FnExactFormatObject_lifted (os : Os) (started : os.Started) (H : Type) (enc : TypeId × Value → H) :
 ReturnsInHanded {} Tryz.checked os 3 .any (fun w args => (Rows.fnExactFormatObjectSpec.pre enc Tryz.prog Tryz.f3 [] false w args ∧ laidMetH Tryz.prog laidAll w) ∧ sizedMet enc Tryz.prog Tryz.f3 (OpenSpec.ofChange Rows.fnExactFormatObjectSpec) false w args) (Rows.fnExactFormatObjectSpec.post enc Tryz.prog Tryz.f3 false true false false) := by
 refine returnsInHanded_of_change_and (C := Tryz.checked) (X := fun w _ => laidMetH Tryz.prog laidAll w) (fun _ _ _ hh h => h.of_heap hh) Tryz.own started (by kernel_rfl) Tryz.func3
  (ChangeSpec.witness_shaped (enc := enc) (C := Tryz.checked) (os := os) (X := fun w _ => laidMetH Tryz.prog laidAll w) false (World.doorLaid Tryz.prog 67 os) #[.agg #[.string ⟨#[]⟩, .slice none 0 0, .slice none 0 0, .slice none 0 0, .int .i64 0]] 8 rfl (World.shaped_of_RefB (by kernel_rfl) (by kernel_rfl)) (by kernel_rfl) (by kernel_rfl) (by kernel_rfl) (door_met os _)) ?_
 intro W base args ds gs before hval0 hW _ _ hL _
 have hval : ∀ (j : Nat) t v, Tryz.f3.params[j]? = some t → args[j]? = some v → Value.okWide Tryz.prog W .any base t v := hval0
 have hW' := hW
 obtain ⟨p, q, hA0, hV, rfl, hfz, hnd⟩ := hW
 have hA : DataW.TrodAll enc Tryz.prog W 0 (fun _ => true) true Tryz.f3.params.toList args.toList ds p := hA0
 rw [Tryz.params3] at hA hval
 obtain ⟨v0, d0, rfl, rfl, h0⟩ := trodAll_one hA
 obtain ⟨g, t, cs, fuel, d, p', rfl, _⟩ := trodVars_one hV
 obtain ⟨x0, w0, r0⟩ := decA_T27 H enc (Ctx.start W) W base v0 d0 _ (start_good W) (hval 0 27 v0 rfl rfl) h0
 refine (law_calls (w_FnExactFormatObject_ok x0 true (D7 x0 w0)) (.cons r0 .nil) (tab_of_laid hL)).mono ?_
 rintro e W' ⟨v, rfl, hv, A⟩
 exact ⟨v, rfl, post_true1 hW' rfl gOp tOp Tryz.laidOut (by kernel_rfl) (by kernel_rfl) Tryz.underlying4 rfl A hv (fun fuel cs d p' e4 =>
  DataW.trod_stays (kids_book Tryz.laidOut (t0 := 96) (by kernel_rfl)) (book_sized (by kernel_rfl)) (fun h => by cases h) ⟨of_decide_eq_true (by kernel_rfl), book_self 96⟩ e4 (fun x hx => by
   have := A.heap x.block (DataW.trod_lt _ _ _ _ e4 x hx)
   cases x with
   | cell b o => exact r8 (by simpa [MemPlace.block] using this) o
   | map b => simpa [MemPlace.block, World.sameAt] using this) (fun x hx => by simpa using DataW.trod_lt _ _ _ _ e4 x hx))⟩
theorem FnExactFormatObject_holds : Rows.FnExactFormatObjectSaid :=
 OpenClaim.holds_of_wide 3 Tryz.f3 rfl rfl rfl rfl rfl rfl rfl ⟨rfl, rfl, rfl, rfl, rfl⟩ rfl rfl rfl rfl rfl (by kernel_rfl) Tryz.func3 (by kernel_rfl)
  (of_decide_eq_true (by kernel_rfl)) (by unfold Func.isWrapper; first | (rw [if_pos (by decide +kernel)]; kernel_rfl) | (rw [if_neg (by decide +kernel)]; exact ⟨rfl, rfl⟩))
  (fun os started H enc _ => FnExactFormatObject_lifted os started H enc)
theorem FnExactFormatObject_card : Rows.FnExactFormatObjectCardSaid :=
 Claim7.holds_tied_plain_at .later [] [.data, .data, .data, .data] true (true, "84e29f272564966f8b2a43c6fa998a45463b66b26dff26f5e878db7665b1966f") true
  FnExactFormatObject_holds (fun _ h => by cases h) (by kernel_rfl) (fun _ h => by cases h) fnExactFormatObject_row_tie rfl ⟨rfl, rfl⟩ (by kernel_rfl) rfl
  (fun f fn hf hfn => by
   obtain rfl : f = 3 := Option.some.inj ((show Tryz.prog.funcNamed "loop.example/g03220/laws.FnExactFormatObject" = some 3 by kernel_rfl).symm.trans hf) |>.symm
   obtain rfl : fn = Tryz.f3 := (Option.some.inj (Tryz.func3.symm.trans hfn)).symm
   exact ⟨by kernel_rfl, fun j t ht => by
    rw [Tryz.params3] at ht
    have hm : t ∈ [27] := by simpa using Array.mem_of_getElem? ht
    have hall : ([27].all fun u => !Tryz.prog.wantsStandIn u) = true := by kernel_rfl
    exact (show Tryz.prog.wantsStandIn t = false by simpa using List.all_eq_true.1 hall t hm)⟩)
  (by kernel_rfl)
end Go.Proofs.YtmgigglpdhoneaaGreatDoor
