/-
  FnExactParseObject: for every argument the law's function returns true. Conditions: none.
-/
import Derived.Test.YtefjnefkdanakaaGreatDoorDecPob
import Derived.Test.YtefjnefkdanakaaGreatDoorGwI
import Derived.Test.YtefjnefkdanakaaGreatDoorPtPob
import Derived.Test.YtefjnefkdanakaaGreatDoorTie
import Derived.Test.YtefjnefkdanakaaGreatDoorCards
import Derived.ProofKit
import Derived.LaidMore
import Derived.OpenShut
import Derived.Stop.Joined
import Derived.SevenTiedAt
import Derived.Shelf.Vars
import Derived.LaidLaws
import Derived.Lay
import Derived.MakeChecks
set_option linter.unusedVariables false
set_option linter.unusedSimpArgs false
namespace Go.Proofs.YtefjnefkdanakaaGreatDoor
open Go Go.Abs Go.ChangeShapes Go.WideShapes Go.ChangeAt Go.WideMaps Go.WideElems Go.RowKit
abbrev laidAll : List (String × DataW Unit) := [("math/bits.deBruijn32tab", Rows.laid_math_bits_deBruijn32tab), ("math/bits.deBruijn64tab", Rows.laid_math_bits_deBruijn64tab), ("internal/strconv.uint64pow10", Rows.laid_internal_strconv_uint64pow10), ("unicode/utf8.acceptRanges", Rows.laid_unicode_utf8_acceptRanges), ("strconv.ErrRange", Rows.laid_strconv_ErrRange), ("strconv.ErrSyntax", Rows.laid_strconv_ErrSyntax), ("loop.example/g03220/impl.opNames", Rows.laid_loop_example_g03220_impl_opNames), ("unicode/utf8.first", Rows.laid_unicode_utf8_first)]
set_option maxRecDepth 100000 in
theorem door_met (os : Os) (args : Array Value) : laidMetH Tryz.prog laidAll ((World.laidAll Tryz.prog os laidAll).forCall (fun _ _ => 0) ⟨#[], args, []⟩).memory :=
 by
 rw [MakeChecks.laidMetH_plain _ _ _ (by kernel_rfl)]; exact laidMet_laidAll _ (by kernel_rfl) (by kernel_rfl)
theorem pow_data : (Rows.laid_internal_strconv_uint64pow10 : DataW Unit) = Go.Lib.tabData .u64 Go.Lib.pow10Tab := by kernel_rfl
theorem pow_of_laid {W : World} (h : laidMetH Tryz.prog laidAll W) : ∃ el fz, W.heap[6]? = some (.cells (Go.Lib.pow10Tab.map fun z => Value.int .u64 z).toArray el fz) := by
 rw [MakeChecks.laidMetH_plain _ _ _ (by kernel_rfl)] at h;obtain ⟨ps, hl, _⟩ := h;obtain ⟨_, _, _, _, _, _, _, _, _, _, hl, _⟩ := hl;obtain ⟨_, _, _, _, _, _, _, _, _, _, hl, _⟩ := hl;obtain ⟨g, t, cs, fuel, p, q, hg, ht, hv, hd, _, _⟩ := hl;obtain rfl := Option.some.inj (gPow.symm.trans hg);obtain rfl := Option.some.inj ((show (Tryz.prog.globals[6]?).map (·.type) = some 176 by kernel_rfl).symm.trans ht);rw [pow_data] at hd;have hc := Go.Lib.cells_of_tab Tryz.underlying176 Tryz.underlying149 (by kernel_rfl) (by kernel_rfl) hd;simp only [World.var?, gPow, Option.bind_some] at hv;split at hv
 ·rename_i cs' el fz hh;simp only [Option.some.injEq] at hv;subst hv;refine ⟨el, fz, ?_⟩;rw [hh, ← hc]
 ·cases hv
theorem gOp : Tryz.prog.globalNamed "loop.example/g03220/impl.opNames" = some 0 := by kernel_rfl
theorem tOp : (Tryz.prog.globals[0]?).map (·.type) = some 95 := by kernel_rfl
theorem ops_data : (Rows.laid_loop_example_g03220_impl_opNames : DataW Unit) = .agg (G3.map fun s => .lit (.string s)) := by rfl
theorem ops_of_laid {W : World} (h : laidMetH Tryz.prog laidAll W) : ∃ el fz, W.heap[0]? = some (.cells (G3.map fun s => Value.string ⟨s.toArray⟩).toArray el fz) := by
 rw [MakeChecks.laidMetH_plain _ _ _ (by kernel_rfl)] at h;obtain ⟨ps, hl, _⟩ := h;obtain ⟨_, _, _, _, _, _, _, _, _, _, hl, _⟩ := hl;obtain ⟨_, _, _, _, _, _, _, _, _, _, hl, _⟩ := hl;obtain ⟨_, _, _, _, _, _, _, _, _, _, hl, _⟩ := hl;obtain ⟨_, _, _, _, _, _, _, _, _, _, hl, _⟩ := hl;obtain ⟨_, _, _, _, _, _, _, _, _, _, hl, _⟩ := hl;obtain ⟨_, _, _, _, _, _, _, _, _, _, hl, _⟩ := hl;obtain ⟨g, t, cs, fuel, p, q, hg, ht, hv, hd, _, _⟩ := hl;obtain rfl := Option.some.inj (gOp.symm.trans hg);obtain rfl := Option.some.inj (tOp.symm.trans ht);rw [ops_data] at hd;obtain ⟨xs, m1, rfl, hx1, hlen, hn, hel⟩ := DataW.trod_array Tryz.underlying95 hd;have c9 : Tryz.prog.cellsOf 9 = 1 := by kernel_rfl
 have hx : xs.map (·.1) = G3.map fun s => (DataW.lit (.string s) : DataW Unit) := by
  simp only [Prod.mk.injEq] at hx1;have h := hx1.1;simp only [DataW.agg.injEq] at h;exact h.symm
 have hget : ∀ (i : Nat) s, G3[i]? = some s → cs[i]? = some (.string ⟨s.toArray⟩) := by
  intro i s hs;have hi : i < 20 := by
   rcases Nat.lt_or_ge i G3.length with h | h
   ·exact h
   ·simp [List.getElem?_eq_none h] at hs
  have he := hel i hi;rw [c9] at he;have hxi : xs[i]?.map (·.1) = some (.lit (.string s)) := by
   rw [← List.getElem?_map, hx, List.getElem?_map, hs]; rfl
  cases hxs : xs[i]? with
  | none => simp [hxs] at hxi
  | some x =>
   rw [hxs] at he hxi;simp only [Option.map_some, Option.some.injEq] at hxi;obtain ⟨s', e1, e2, _⟩ := DataW.trod_string Tryz.underlying9 he;rw [e2] at hxi;simp only [DataW.lit.injEq, Lit.string.injEq] at hxi;have h1 : cs[i]? = some (.string s') := by
    have := congrArg (·[0]?) e1;simpa [List.getElem?_take, List.getElem?_drop] using this
   rw [h1, ← hxi]
 have c53 : Tryz.prog.cellsOf 95 = 20 := by kernel_rfl
 have hsz : cs.toList.length = 20 := by rw [hlen, c53]
 have hc : cs = (G3.map fun s => Value.string ⟨s.toArray⟩).toArray := by
  apply Array.ext';apply List.ext_getElem?;intro i;rcases Nat.lt_or_ge i 20 with hi | hi
  ·obtain ⟨s, hs⟩ : ∃ s, G3[i]? = some s := ⟨_, List.getElem?_eq_getElem (show i < G3.length from hi)⟩
   have := hget i s hs;rw [Array.getElem?_toList, this];simp [hs]
  ·rw [List.getElem?_eq_none (by omega), List.getElem?_eq_none (by simpa using (show G3.length ≤ i from hi))]
 simp only [World.var?, gOp, Option.bind_some] at hv;split at hv
 ·rename_i cs' el fz hh;simp only [Option.some.injEq] at hv;subst hv;refine ⟨el, fz, ?_⟩;rw [hh, ← hc]
 ·cases hv
theorem gErr : Tryz.prog.globalNamed "strconv.ErrSyntax" = some 2 := by kernel_rfl
theorem err_of_laid {W : World} (h : laidMetH Tryz.prog laidAll W) : ∃ ev el fz, W.heap[2]? = some (.cells #[ev] el fz) ∧ (ev = .nilIface ∨ ∃ te pe, ev = .iface te pe) := by
 rw [MakeChecks.laidMetH_plain _ _ _ (by kernel_rfl)] at h;obtain ⟨ps, hl, _⟩ := h;obtain ⟨_, _, _, _, _, _, _, _, _, _, hl, _⟩ := hl;obtain ⟨_, _, _, _, _, _, _, _, _, _, hl, _⟩ := hl;obtain ⟨_, _, _, _, _, _, _, _, _, _, hl, _⟩ := hl;obtain ⟨_, _, _, _, _, _, _, _, _, _, hl, _⟩ := hl;obtain ⟨_, _, _, _, _, _, _, _, _, _, hl, _⟩ := hl;obtain ⟨g, t, cs, fuel, p, q, hg, ht, hv, hd, _, _⟩ := hl;obtain rfl := Option.some.inj (gErr.symm.trans hg);obtain rfl := Option.some.inj ((show (Tryz.prog.globals[2]?).map (·.type) = some 92 by kernel_rfl).symm.trans ht);obtain ⟨f1, u, v, hcs, _, _⟩ := iface_of_trod Tryz.underlying92 hd;simp only [World.var?, gErr, Option.bind_some] at hv;split at hv
 ·rename_i cs' el fz hh;simp only [Option.some.injEq] at hv;subst hv;have hc : cs' = #[.iface u v] := by
   cases cs' with
   | mk l => simpa using hcs
  subst hc;exact ⟨_, el, fz, hh, .inr ⟨_, _, rfl⟩⟩
 ·cases hv
theorem max_of_shape {W : World} (h : W.ShapedOpen Tryz.prog) : ∃ m cs el fz, W.heap[1]? = some (.cells cs el fz) ∧ cs[0]? = some (.int .i64 m) := by
 obtain ⟨m, hm⟩ := Go.Proofs.cell_of_shapedOpen_int (zero := #[.int .i64 0]) (t := 3) (g := 1) h (of_decide_eq_true (by kernel_rfl)) (by kernel_rfl) rfl (by kernel_rfl) (by kernel_rfl) Tryz.underlying3;unfold World.cell? at hm;cases hh : W.heap[1]? with
 | none => simp [hh] at hm
 | some o =>
  cases o with
  | cells cs el fz => exact ⟨m, cs, el, fz, rfl, by simpa [hh] using hm⟩
  | _ => simp [hh] at hm
theorem tab_of_laid {W : World} (h : laidMetH Tryz.prog laidAll W) (hsh : W.ShapedOpen Tryz.prog) : ∀ b, tabAt b = true → b < W.heap.size ∧ tabIs b W.heap[b]? := fun b hb => by
 have hp := pow_of_laid h;have ho := ops_of_laid h;have he := err_of_laid h;have hm := max_of_shape hsh;have lt : ∀ {k : Nat} {o : Obj}, W.heap[k]? = some o → k < W.heap.size := fun {k o} e => by
  rcases Nat.lt_or_ge k W.heap.size with h | h
  ·exact h
  ·simp [Array.getElem?_eq_none h] at e
 have hb1 : b = 0 ∨ b = 6 ∨ b = 1 ∨ b = 2 := by
  simp only [tabAt, Bool.or_eq_true] at hb;rcases hb with hb | hb | hb | hb
  ·exact .inl (Nat.eq_of_beq_eq_true hb)
  ·exact .inr (.inl (Nat.eq_of_beq_eq_true hb))
  ·exact .inr (.inr (.inl (Nat.eq_of_beq_eq_true hb)))
  ·exact .inr (.inr (.inr (Nat.eq_of_beq_eq_true hb)))
 rcases hb1 with rfl | rfl | rfl | rfl
 ·refine ⟨?_, And.intro (fun _ => ho) (And.intro (fun e => absurd e (by decide)) (And.intro (fun e => absurd e (by decide)) (fun e => absurd e (by decide))))⟩;obtain ⟨_, _, ho⟩ := ho; exact lt ho
 ·refine ⟨?_, And.intro (fun e => absurd e (by decide)) (And.intro (fun _ => hp) (And.intro (fun e => absurd e (by decide)) (fun e => absurd e (by decide))))⟩;obtain ⟨_, _, hp⟩ := hp; exact lt hp
 ·refine ⟨?_, And.intro (fun e => absurd e (by decide)) (And.intro (fun e => absurd e (by decide)) (And.intro (fun _ => hm) (fun e => absurd e (by decide))))⟩;obtain ⟨_, _, _, _, hm, _⟩ := hm; exact lt hm
 ·refine ⟨?_, And.intro (fun e => absurd e (by decide)) (And.intro (fun e => absurd e (by decide)) (And.intro (fun e => absurd e (by decide)) (fun _ => he)))⟩;obtain ⟨_, _, _, he, _⟩ := he; exact lt he
theorem row_of_law {H : Type} {enc : TypeId × Value → H} {C : Checked} {os : Os} {f : FuncId} {fn : Func} {s : ChangeSpec} {X : World → Prop} (hX : ∀ w w' : World, w.heap = w'.heap → X w → X w')
 (own : ownKnob C.prog.godebug = none) (started : os.Started) (noInit : C.prog.inits.idxOf? f = none) (hfn : C.prog.funcs[f]? = some fn)
 (witness : ∃ (w : World) (tape : Tape) (i : Input), w.os = os ∧ (w.forCall tape i).Shaped C.prog ∧ i.vars = [] ∧ Input.okWide C.prog (w.forCall tape i) .any w.heap.size f i ∧
  ((s.pre enc C.prog fn [] false (w.forCall tape i).memory i.args ∧ X (w.forCall tape i).memory) ∧ sizedMet enc C.prog fn (OpenSpec.ofChange s) false (w.forCall tape i).memory i.args) ∧ Assume.holds {} C.prog (lone (Frame.enter C.prog f i.args .normal) [] (w.forCall tape i)))
 (law : ∀ (W : World) (base : Nat) (args : Array Value) (ds gs : List (DataW H)) (before : List MemPlace),
  (∀ (j : Nat) t v, fn.params[j]? = some t → args[j]? = some v → Value.okWide C.prog W .any base t v) → DataW.Whole enc C.prog fn.params.toList s.vars false W args.toList ds gs before → X W → W.ShapedOpen C.prog →
  Calls C.prog f args W fun e W' => ∃ v, e = .returned v ∧ s.post enc C.prog fn false true false false W args v W') :
 ReturnsInHanded {} C os f .any (fun w args => (s.pre enc C.prog fn [] false w args ∧ X w) ∧ sizedMet enc C.prog fn (OpenSpec.ofChange s) false w args) (s.post enc C.prog fn false true false false) :=
 returnsInHanded_of_calls own started noInit witness fun w tape i _ hsh _ hok hpre _ => by
  obtain ⟨_, _, _, fn2, h2, _, _, _, _, hval⟩ := hok;obtain rfl : fn2 = fn := Option.some.inj (h2.symm.trans hfn);obtain ⟨⟨⟨ds, gs, before, hw, _⟩, hx⟩, _⟩ := hpre;refine (law (w.forCall tape i) w.heap.size i.args ds gs before hval (DataW.Whole.of_heap (w' := w.forCall tape i) (by rfl) hw) (hX _ _ (by rfl) hx) hsh).mono fun e W' ⟨v, he, hp⟩ => ?_;subst he;exact ChangeSpec.post_blind hp
set_option maxRecDepth 100000 in
theorem FnExactParseObject_lifted (os : Os) (started : os.Started) (H : Type) (enc : TypeId × Value → H) :
 ReturnsInHanded {} Tryz.checked os 4 .any (fun w args => (Rows.fnExactParseObjectSpec.pre enc Tryz.prog Tryz.f4 [] false w args ∧ laidMetH Tryz.prog laidAll w) ∧ sizedMet enc Tryz.prog Tryz.f4 (OpenSpec.ofChange Rows.fnExactParseObjectSpec) false w args) (Rows.fnExactParseObjectSpec.post enc Tryz.prog Tryz.f4 false true false false) := by
 refine row_of_law (C := Tryz.checked) (X := fun w => laidMetH Tryz.prog laidAll w) (fun _ _ hh h => h.of_heap hh) Tryz.own started (by kernel_rfl) Tryz.func4
  (ChangeSpec.witness_shaped (enc := enc) (C := Tryz.checked) (os := os) (X := fun w _ => laidMetH Tryz.prog laidAll w) false (World.laidAll Tryz.prog os laidAll) #[.slice none 0 0] 8 (World.laidAll_os _ _ _) (World.shaped_of_ZipB (by kernel_rfl) (by kernel_rfl)) (by kernel_rfl) (by kernel_rfl) (by kernel_rfl) (door_met os _)) ?_
 intro W base args ds gs before hval0 hW hL hsh;have hval : ∀ (j : Nat) t v, Tryz.f4.params[j]? = some t → args[j]? = some v → Value.okWide Tryz.prog W .any base t v := hval0;have hW' := hW;obtain ⟨p, q, hA0, hV, rfl, hfz, hnd⟩ := hW;have hA : DataW.TrodAll enc Tryz.prog W 0 (fun _ => true) true Tryz.f4.params.toList args.toList ds p := hA0;rw [Tryz.params4] at hA hval;obtain ⟨v0, d0, rfl, rfl, h0⟩ := trodAll_one hA;obtain ⟨g, t, cs, fuel, d, p', rfl, _⟩ := trodVars_one hV;obtain ⟨x0, w0, r0⟩ := decA_T22 H enc (Ctx.start W) W base v0 d0 _ (start_good W) (hval 0 22 v0 rfl rfl) h0;refine (law_calls (jU x0 true (fX x0 w0)) (.cons r0 .nil) (tab_of_laid hL hsh)).mono ?_;rintro e W' ⟨v, rfl, hv, A⟩;exact ⟨v, rfl, post_true1 hW' rfl gOp tOp Tryz.laidOut (by kernel_rfl) (by kernel_rfl) Tryz.underlying4 rfl A hv (fun fuel cs d p' e4 =>
  DataW.trod_stays (kids_book Tryz.laidOut (t0 := 95) (by kernel_rfl)) (book_sized (by kernel_rfl)) (fun h => by cases h) ⟨of_decide_eq_true (by kernel_rfl), book_self 95⟩ e4 (fun x hx => by
   have := A.heap x.block (DataW.trod_lt _ _ _ _ e4 x hx);cases x with
   | cell b o => exact G4 (by simpa [MemPlace.block] using this) o
   | map b => simpa [MemPlace.block, World.sameAt] using this) (fun x hx => by simpa using DataW.trod_lt _ _ _ _ e4 x hx))⟩
theorem FnExactParseObject_holds : Rows.FnExactParseObjectSaid :=
 OpenClaim.holds_of_wide 4 Tryz.f4 rfl rfl rfl rfl rfl rfl rfl ⟨rfl, rfl, rfl, rfl, rfl⟩ rfl rfl rfl rfl rfl (by kernel_rfl) Tryz.func4 (by kernel_rfl)
  (of_decide_eq_true (by kernel_rfl)) (by unfold Func.isWrapper; first | (rw [if_pos (by decide +kernel)]; kernel_rfl) | (rw [if_neg (by decide +kernel)]; exact ⟨rfl, rfl⟩))
  (fun os started H enc _ => FnExactParseObject_lifted os started H enc)
theorem FnExactParseObject_card : Rows.FnExactParseObjectCardSaid :=
 Claim7.holds_tied_plain_at .later [] [.data, .data, .data, .data, .sentinel, .sentinel, .data, .pinned] true (true, "50148cda184087794d59dbe3c9c5a021069a90fd858dccdfe4285ba32ec251e1") true
  FnExactParseObject_holds (fun _ h => by cases h) (by kernel_rfl) (fun _ h => by cases h) fnExactParseObject_row_tie rfl ⟨rfl, rfl⟩ (by kernel_rfl) rfl
  (fun f fn hf hfn => by
   obtain rfl : f = 4 := Option.some.inj ((show Tryz.prog.funcNamed "loop.example/g03220/laws.FnExactParseObject" = some 4 by kernel_rfl).symm.trans hf) |>.symm;obtain rfl : fn = Tryz.f4 := (Option.some.inj (Tryz.func4.symm.trans hfn)).symm;exact ⟨by kernel_rfl, fun j t ht => by
    rw [Tryz.params4] at ht;have hm : t ∈ [22] := by simpa using Array.mem_of_getElem? ht
    have hall : ([22].all fun u => !Tryz.prog.wantsStandIn u) = true := by kernel_rfl
    exact (show Tryz.prog.wantsStandIn t = false by simpa using List.all_eq_true.1 hall t hm)⟩)
  (by kernel_rfl)
end Go.Proofs.YtefjnefkdanakaaGreatDoor
