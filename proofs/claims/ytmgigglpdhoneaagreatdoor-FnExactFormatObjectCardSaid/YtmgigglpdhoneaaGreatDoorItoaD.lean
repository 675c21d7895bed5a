
import Derived.Test.YtmgigglpdhoneaaGreatDoorLibH
import Derived.Test.YtmgigglpdhoneaaGreatDoorLibV
import Derived.Test.YtmgigglpdhoneaaGreatDoorTabD1
import Derived.Shelf.Strconv.Itoa4
import Derived.Shelf.Lay
import Derived.Ground.NamesProg
set_option linter.unusedVariables false
set_option linter.unusedSimpArgs false
namespace Go.Proofs
open Go.Shelf
shelf_lay LaysM.n171 Nm 171 at Tryz as Tryz.lays171
end Go.Proofs
namespace Go.Proofs.YtmgigglpdhoneaaGreatDoor
open Go.Abs
theorem gPow : Tryz.prog.globalNamed "internal/strconv.uint64pow10" = some 4 := by kernel_rfl
theorem hst_agree {C : Ctx} {w w' : World} {h : List (Nat × HB)} (hs : HSt C w h) (A : Agree w w') : HSt C w' h :=
 (C9 (a := { tmps := #[], defers := [] }) (s := ⟨[], h, C.nx, 0, []⟩) ⟨rfl, rfl, rfl, fun i => .junk _, hs, fun l hl => by cases hl⟩ A).heap
theorem x_Itoa_ok (n : Int) (q : List UInt8) (hF : x_Itoa n = some q) : FC Tryz.prog 89 [.int .i64 n] [] 8 (fun x _ => x = .str q) := by
 unfold x_Itoa at hF
 obtain ⟨hb, hF⟩ := d8 hF
 obtain rfl := Option.some.inj hF
 refine ⟨⟨_, Tryz.func89, by kernel_rfl, by kernel_rfl⟩, fun C w cargs hnx hs hrep => ?_⟩
 have hb' : -9223372036854775808 ≤ n ∧ n ≤ 9223372036854775807 := hb
 have ha : cargs = #[.int .i64 n] := by
  obtain ⟨l⟩ := cargs
  cases hrep with
  | cons h t => cases h; cases t; rfl
 subst ha
 have htab : Go.Lib.TabIs Tryz.prog w "internal/strconv.uint64pow10" .u64 Go.Lib.pow10Tab := by
  obtain ⟨el, fz, h⟩ := tab_pow (hs.tab 4 rfl).2
  unfold Go.Lib.TabIs
  simp only [World.var?, gPow, Option.bind_some, h]
 have key := Any.strconv_Itoa Tryz.lays171 n hb'.1 hb'.2 w htab
 refine Calls.mono (show Calls Tryz.prog 89 _ w _ from key) ?_
 rintro e w' ⟨rfl, k, os, rfl⟩
 have A : Agree w (Go.Sort.grow (w.drewN k) os) := ⟨by simp [Go.Sort.grow, World.drewN], fun b hb => by simp [Go.Sort.grow, World.drewN, Array.getElem?_append, hb], rfl, rfl⟩
 exact ⟨_, C, .str _, [], rfl, hst_agree hs A, .str _, G0 A, rfl⟩
end Go.Proofs.YtmgigglpdhoneaaGreatDoor
