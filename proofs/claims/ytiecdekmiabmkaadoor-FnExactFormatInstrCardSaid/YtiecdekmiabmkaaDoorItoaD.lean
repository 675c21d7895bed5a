/-
  strconv.Itoa at this seat: the kit's contract as ours.
-/
import Derived.Test.YtiecdekmiabmkaaDoorLibG
import Derived.Test.YtiecdekmiabmkaaDoorTabD1
import Derived.Shelf.Strconv.Itoa4
import Derived.Ground.NamesProg
set_option linter.unusedVariables false
set_option linter.unusedSimpArgs false
namespace Go.Proofs
open Go.Shelf
def Tryd.lays171_ren : Go.Shelf.Ren := ⟨fun | 171 => 53 | 243 => 65 | 246 => 72 | 283 => 73 | 284 => 74 | 285 => 75 | 286 => 76 | 129 => 78 | 317 => 77 | 318 => 79 | 319 => 80 | 320 => 81 | 337 => 82 | 338 => 83 | n => n, fun | 3 => 3 | 9 => 9 | 2 => 2 | 4 => 4 | 171 => 88 | 0 => 0 | 53 => 89 | 37 => 70 | 5 => 5 | 173 => 92 | 212 => 96 | 51 => 97 | 20 => 20 | 213 => 98 | 46 => 99 | 232 => 102 | 233 => 103 | n => n, fun | 17 => 1 | 18 => 2 | 19 => 3 | n => n⟩
theorem Tryd.lays171 : Go.Proofs.LaysM.n171 Tryd.prog Tryd.lays171_ren := {
  mixed := by kernel_rfl
  f129 := Tryd.func78.trans (congrArg some (by kernel_rfl))
  f171 := Tryd.func53.trans (congrArg some (by kernel_rfl))
  f243 := Tryd.func65.trans (congrArg some (by kernel_rfl))
  f246 := Tryd.func72.trans (congrArg some (by kernel_rfl))
  f283 := Tryd.func73.trans (congrArg some (by kernel_rfl))
  f284 := Tryd.func74.trans (congrArg some (by kernel_rfl))
  f285 := Tryd.func75.trans (congrArg some (by kernel_rfl))
  f286 := Tryd.func76.trans (congrArg some (by kernel_rfl))
  f317 := Tryd.func77.trans (congrArg some (by kernel_rfl))
  f318 := Tryd.func79.trans (congrArg some (by kernel_rfl))
  f319 := Tryd.func80.trans (congrArg some (by kernel_rfl))
  f320 := Tryd.func81.trans (congrArg some (by kernel_rfl))
  f337 := Tryd.func82.trans (congrArg some (by kernel_rfl))
  f338 := Tryd.func83.trans (congrArg some (by kernel_rfl))
  t0 := Tryd.underlying0
  a0 := Tryd.isAgg0
  z0 := Tryd.sizeOf0
  v0 := Tryd.zeroValue0
  t2 := Tryd.underlying2
  a2 := Tryd.isAgg2
  z2 := Tryd.sizeOf2
  v2 := Tryd.zeroValue2
  t3 := Tryd.underlying3
  a3 := Tryd.isAgg3
  z3 := Tryd.sizeOf3
  v3 := Tryd.zeroValue3
  t4 := Tryd.underlying4
  a4 := Tryd.isAgg4
  z4 := Tryd.sizeOf4
  v4 := Tryd.zeroValue4
  t5 := Tryd.underlying5
  a5 := Tryd.isAgg5
  z5 := Tryd.sizeOf5
  v5 := Tryd.zeroValue5
  t9 := Tryd.underlying9
  a9 := Tryd.isAgg9
  z9 := Tryd.sizeOf9
  v9 := Tryd.zeroValue9
  t20 := Tryd.underlying20
  a20 := Tryd.isAgg20
  z20 := Tryd.sizeOf20
  v20 := Tryd.zeroValue20
  t37 := Tryd.underlying70
  a37 := Tryd.isAgg70
  z37 := Tryd.sizeOf70
  v37 := Tryd.zeroValue70
  t46 := Tryd.underlying99
  a46 := Tryd.isAgg99
  z46 := Tryd.sizeOf99
  v46 := Tryd.zeroValue99
  t51 := Tryd.underlying97
  a51 := Tryd.isAgg97
  z51 := Tryd.sizeOf97
  v51 := Tryd.zeroValue97
  t53 := Tryd.underlying89
  a53 := Tryd.isAgg89
  z53 := Tryd.sizeOf89
  v53 := Tryd.zeroValue89
  t171 := Tryd.underlying88
  a171 := Tryd.isAgg88
  z171 := Tryd.sizeOf88
  v171 := Tryd.zeroValue88
  t173 := Tryd.underlying92
  a173 := Tryd.isAgg92
  z173 := Tryd.sizeOf92
  v173 := Tryd.zeroValue92
  t212 := Tryd.underlying96
  a212 := Tryd.isAgg96
  z212 := Tryd.sizeOf96
  v212 := Tryd.zeroValue96
  t213 := Tryd.underlying98
  a213 := Tryd.isAgg98
  z213 := Tryd.sizeOf98
  t232 := Tryd.underlying102
  a232 := Tryd.isAgg102
  z232 := Tryd.sizeOf102
  v232 := Tryd.zeroValue102
  t233 := Tryd.underlying103
  a233 := Tryd.isAgg103
  z233 := Tryd.sizeOf103
  v233 := Tryd.zeroValue103
  g17 := by kernel_rfl
  g18 := by kernel_rfl
  g19 := by kernel_rfl
  i0 := by kernel_rfl
  i2 := by kernel_rfl
  i3 := by kernel_rfl
  i4 := by kernel_rfl
  i5 := by kernel_rfl
  i9 := by kernel_rfl
  i20 := by kernel_rfl
  i37 := by kernel_rfl
  i46 := by kernel_rfl
  i51 := by kernel_rfl
  i53 := by kernel_rfl
  i171 := by kernel_rfl
  i173 := by kernel_rfl
  i212 := by kernel_rfl
  i232 := by kernel_rfl
  i233 := by kernel_rfl
  m17 := by kernel_rfl
  m18 := by kernel_rfl
  m19 := by kernel_rfl }
end Go.Proofs
namespace Go.Proofs.YtiecdekmiabmkaaDoor
open Go.Abs
theorem gPow : Tryd.prog.globalNamed "internal/strconv.uint64pow10" = some 1 := by kernel_rfl
theorem hst_agree {C : Ctx} {w w' : World} {h : List (Nat × HB)} (hs : HSt C w h) (A : Agree w w') : HSt C w' h :=
  (agree_rep (a := { tmps := #[], defers := [] }) (s := ⟨[], h, C.nx, 0, []⟩) ⟨rfl, rfl, rfl, fun i => .junk _, hs, fun l hl => by cases hl⟩ A).heap
theorem x_Itoa_ok (n : Int) (q : List UInt8) (hF : x_Itoa n = some q) : FC Tryd.prog 53 [.int .i64 n] [] 3 (fun x _ => x = .str q) := by
  unfold x_Itoa at hF
  obtain ⟨hb, hF⟩ := chk_some hF
  obtain rfl := Option.some.inj hF
  refine ⟨⟨_, Tryd.func53, by kernel_rfl, by kernel_rfl⟩, fun C w cargs hnx hs hrep => ?_⟩
  have hb' : -9223372036854775808 ≤ n ∧ n ≤ 9223372036854775807 := hb
  have ha : cargs = #[.int .i64 n] := by
    obtain ⟨l⟩ := cargs
    cases hrep with
    | cons h t => cases h; cases t; rfl
  subst ha
  have htab : Go.Lib.TabIs Tryd.prog w "internal/strconv.uint64pow10" .u64 Go.Lib.pow10Tab := by
    obtain ⟨el, fz, h⟩ := tab_pow (hs.tab 1 rfl).2
    unfold Go.Lib.TabIs
    simp only [World.var?, gPow, Option.bind_some, h]
  have key := Any.strconv_Itoa Tryd.lays171 n hb'.1 hb'.2 w htab
  refine Calls.mono (show Calls Tryd.prog 53 _ w _ from key) ?_
  rintro e w' ⟨rfl, k, os, rfl⟩
  have A : Agree w (Go.Sort.grow (w.drewN k) os) := ⟨by simp [Go.Sort.grow, World.drewN], fun b hb => by simp [Go.Sort.grow, World.drewN, Array.getElem?_append, hb], rfl, rfl⟩
  exact ⟨_, C, .str _, [], rfl, hst_agree hs A, .str _, agree_fr A, rfl⟩
end Go.Proofs.YtiecdekmiabmkaaDoor
