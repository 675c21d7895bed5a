/-
  strconv.Itoa at this seat: the kit's contract as ours.
-/
import Derived.Test.YtmgigglpdhoneaaDoorLibG
import Derived.Test.YtmgigglpdhoneaaDoorTabD1
import Derived.Shelf.Strconv.Itoa4
import Derived.Shelf.Lay
import Derived.Ground.NamesProg
set_option linter.unusedVariables false
set_option linter.unusedSimpArgs false
namespace Go.Proofs
open Go.Shelf
shelf_lay LaysM.n171 Nm 171 at Tryd as Tryd.lays171
end Go.Proofs
namespace Go.Proofs.YtmgigglpdhoneaaDoor
open Go.Abs
theorem gPow : Tryd.prog.globalNamed "internal/strconv.uint64pow10" = some 1 := by kernel_rfl
theorem hst_agree {C : Ctx} {w w' : World} {h : List (Nat × HB)} (hs : HSt C w h) (A : Agree w w') : HSt C w' h :=
  (agree_rep (a := { tmps := #[], defers := [] }) (s := ⟨[], h, C.nx, 0, []⟩) ⟨rfl, rfl, rfl, fun i => .junk _, hs, fun l hl => by cases hl⟩ A).heap
theorem x_Itoa_ok (n : Int) (q : List UInt8) (hF : x_Itoa n = some q) : FC Tryd.prog 47 [.int .i64 n] [] 3 (fun x _ => x = .str q) := by
  unfold x_Itoa at hF
  obtain ⟨hb, hF⟩ := chk_some hF
  obtain rfl := Option.some.inj hF
  refine ⟨⟨_, Tryd.func47, by kernel_rfl, by kernel_rfl⟩, fun C w cargs hnx hs hrep => ?_⟩
  have hb' : -9223372036854775808 ≤ n ∧ n ≤ 9223372036854775807 := hb
  have ha : cargs = #[.int .i64 n] := by
    obtain ⟨l⟩ := cargs
    cases hrep with
    | cons h t => cases h; cases t; rfl
  subst ha
  have htab : Go.Lib.TabIs Tryd.prog w "internal/strconv.uint64pow10" .u64 Go.Lib.pow10Tab := by
    obtain ⟨el, fz, h⟩ := tab_pow (hs.tab 1 rfl).2
    unfold Go.Lib.TabIs
    simp only [World.var?, gPow, Option.bind_some, h]
  have key := Any.strconv_Itoa Tryd.lays171 n hb'.1 hb'.2 w htab
  refine Calls.mono (show Calls Tryd.prog 47 _ w _ from key) ?_
  rintro e w' ⟨rfl, k, os, rfl⟩
  have A : Agree w (Go.Sort.grow (w.drewN k) os) := ⟨by simp [Go.Sort.grow, World.drewN], fun b hb => by simp [Go.Sort.grow, World.drewN, Array.getElem?_append, hb], rfl, rfl⟩
  exact ⟨_, C, .str _, [], rfl, hst_agree hs A, .str _, agree_fr A, rfl⟩
end Go.Proofs.YtmgigglpdhoneaaDoor
