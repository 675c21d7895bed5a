/-
  strconv.Itoa at this seat.
-/
import Derived.Test.YtbdmleibanpfnaaGreatDoorLibE
import Derived.Test.YtbdmleibanpfnaaGreatDoorRows
import Derived.Shelf.Strconv.Itoa4
set_option linter.all false
set_option maxRecDepth 100000
namespace Go.Proofs
open Go.Shelf
def Tryz.lays171_ren : Go.Shelf.Ren := ⟨fun | 171 => 46 | 243 => 98 | 246 => 169 | 283 => 244 | 284 => 245 | 285 => 246 | 286 => 247 | 129 => 303 | 317 => 302 | 318 => 304 | 319 => 305 | 320 => 306 | 337 => 336 | 338 => 337 | n => n, fun | 3 => 3 | 9 => 9 | 2 => 2 | 4 => 4 | 171 => 328 | 0 => 0 | 53 => 329 | 37 => 22 | 5 => 5 | 173 => 332 | 212 => 373 | 51 => 374 | 20 => 20 | 213 => 375 | 46 => 376 | 232 => 413 | 233 => 414 | n => n, fun | 17 => 1 | 18 => 2 | 19 => 3 | n => n⟩
theorem Tryz.lays171 : Go.Proofs.LaysM.n171 Tryz.prog Tryz.lays171_ren := {
  mixed := by kernel_rfl
  f129 := Tryz.func303.trans (congrArg some (by kernel_rfl))
  f171 := Tryz.func46.trans (congrArg some (by kernel_rfl))
  f243 := Tryz.func98.trans (congrArg some (by kernel_rfl))
  f246 := Tryz.func169.trans (congrArg some (by kernel_rfl))
  f283 := Tryz.func244.trans (congrArg some (by kernel_rfl))
  f284 := Tryz.func245.trans (congrArg some (by kernel_rfl))
  f285 := Tryz.func246.trans (congrArg some (by kernel_rfl))
  f286 := Tryz.func247.trans (congrArg some (by kernel_rfl))
  f317 := Tryz.func302.trans (congrArg some (by kernel_rfl))
  f318 := Tryz.func304.trans (congrArg some (by kernel_rfl))
  f319 := Tryz.func305.trans (congrArg some (by kernel_rfl))
  f320 := Tryz.func306.trans (congrArg some (by kernel_rfl))
  f337 := Tryz.func336.trans (congrArg some (by kernel_rfl))
  f338 := Tryz.func337.trans (congrArg some (by kernel_rfl))
  t0 := Tryz.underlying0
  a0 := Tryz.isAgg0
  z0 := Tryz.sizeOf0
  v0 := Tryz.zeroValue0
  t2 := Tryz.underlying2
  a2 := Tryz.isAgg2
  z2 := Tryz.sizeOf2
  v2 := Tryz.zeroValue2
  t3 := Tryz.underlying3
  a3 := Tryz.isAgg3
  z3 := Tryz.sizeOf3
  v3 := Tryz.zeroValue3
  t4 := Tryz.underlying4
  a4 := Tryz.isAgg4
  z4 := Tryz.sizeOf4
  v4 := Tryz.zeroValue4
  t5 := Tryz.underlying5
  a5 := Tryz.isAgg5
  z5 := Tryz.sizeOf5
  v5 := Tryz.zeroValue5
  t9 := Tryz.underlying9
  a9 := Tryz.isAgg9
  z9 := Tryz.sizeOf9
  v9 := Tryz.zeroValue9
  t20 := Tryz.underlying20
  a20 := Tryz.isAgg20
  z20 := Tryz.sizeOf20
  v20 := Tryz.zeroValue20
  t37 := Tryz.underlying22
  a37 := Tryz.isAgg22
  z37 := Tryz.sizeOf22
  v37 := Tryz.zeroValue22
  t46 := Tryz.underlying376
  a46 := Tryz.isAgg376
  z46 := Tryz.sizeOf376
  v46 := Tryz.zeroValue376
  t51 := Tryz.underlying374
  a51 := Tryz.isAgg374
  z51 := Tryz.sizeOf374
  v51 := Tryz.zeroValue374
  t53 := Tryz.underlying329
  a53 := Tryz.isAgg329
  z53 := Tryz.sizeOf329
  v53 := Tryz.zeroValue329
  t171 := Tryz.underlying328
  a171 := Tryz.isAgg328
  z171 := Tryz.sizeOf328
  v171 := Tryz.zeroValue328
  t173 := Tryz.underlying332
  a173 := Tryz.isAgg332
  z173 := Tryz.sizeOf332
  v173 := Tryz.zeroValue332
  t212 := Tryz.underlying373
  a212 := Tryz.isAgg373
  z212 := Tryz.sizeOf373
  v212 := Tryz.zeroValue373
  t213 := Tryz.underlying375
  a213 := Tryz.isAgg375
  z213 := Tryz.sizeOf375
  t232 := Tryz.underlying413
  a232 := Tryz.isAgg413
  z232 := Tryz.sizeOf413
  v232 := Tryz.zeroValue413
  t233 := Tryz.underlying414
  a233 := Tryz.isAgg414
  z233 := Tryz.sizeOf414
  v233 := Tryz.zeroValue414
  g17 := by kernel_rfl
  g18 := by kernel_rfl
  g19 := by kernel_rfl
  i0 := by kernel_rfl
  i2 := by kernel_rfl
  i3 := by kernel_rfl
  i4 := by kernel_rfl
  i5 := by kernel_rfl
  i9 := by kernel_rfl
  i20 := by kernel_rfl
  i37 := by kernel_rfl
  i46 := by kernel_rfl
  i51 := by kernel_rfl
  i53 := by kernel_rfl
  i171 := by kernel_rfl
  i173 := by kernel_rfl
  i212 := by kernel_rfl
  i232 := by kernel_rfl
  i233 := by kernel_rfl
  m17 := by kernel_rfl
  m18 := by kernel_rfl
  m19 := by kernel_rfl }
end Go.Proofs
namespace Go.X1
open Go.Proofs
/-- What lies in memory when the law is called. -/
structure WOK (W0 : World) : Prop where
  pow : ∃ el fz, W0.heap[1]? = some (.cells (Go.Lib.pow10Tab.map fun z => Value.int .u64 z).toArray el fz)
theorem gPow : Tryz.prog.globalNamed "internal/strconv.uint64pow10" = some 1 := by kernel_rfl
theorem heap_lt {W : World} {b : Nat} {o : Obj} (h : W.heap[b]? = some o) : b < W.heap.size := by
  rcases Nat.lt_or_ge b W.heap.size with q | q
  · exact q
  · rw [Array.getElem?_eq_none q] at h; cases h
theorem run_Itoa {W0 : World} (hW : WOK W0) (n : Int) (w : World) (h0 : -9223372036854775808 ≤ n) (h1 : n ≤ 9223372036854775807) (A : Agree W0 w) : Calls Tryz.prog 46 #[.int .i64 n] w (fun e w' => e = .returned (.string ⟨(Lib.itoa n).toArray⟩) ∧ Agree w w') := by
  have htab : Go.Lib.TabIs Tryz.prog w "internal/strconv.uint64pow10" .u64 Go.Lib.pow10Tab := by
    obtain ⟨el, fz, h⟩ := hW.pow
    rw [← A.heap 1 (heap_lt h)] at h
    unfold Go.Lib.TabIs
    simp only [World.var?, gPow, Option.bind_some, h]
  refine Calls.mono (show Calls Tryz.prog 46 _ w _ from Any.strconv_Itoa Tryz.lays171 n h0 h1 w htab) ?_
  rintro e w' ⟨rfl, k, os, rfl⟩
  exact ⟨rfl, by simp [Go.Sort.grow, World.drewN], fun b hb => by simp [Go.Sort.grow, World.drewN, Array.getElem?_append, hb], rfl, rfl⟩
section
variable [Nu] {W0 : World} {k : K} (hW : WOK W0)
include hW
theorem c_Itoa : FnAns Tryz.prog W0 46 (fItoa k) := itoa_ans ⟨_, Tryz.func46, by kernel_rfl, by kernel_rfl⟩ (run_Itoa hW)
theorem c_ItoaD {dt : List (Nat × Nat)} (hdt : ∀ i d, (i, d) ∈ dt → (itB (Nu.val i)).length = d) : FnAns Tryz.prog W0 46 (fItoaD dt k) := itoaD_ans hdt ⟨_, Tryz.func46, by kernel_rfl, by kernel_rfl⟩ (run_Itoa hW)
end
end Go.X1
