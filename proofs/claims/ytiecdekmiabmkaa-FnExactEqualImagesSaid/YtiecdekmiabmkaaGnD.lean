/-
  Readings of arguments by codecs.
-/
import Derived.Test.YtiecdekmiabmkaaGnT
set_option linter.unusedVariables false
set_option linter.unusedSimpArgs false
namespace Go.Abs
theorem dec_zero {P : Program} {t : TypeId} {X : Type} {W : X → Prop} {e : X → List V} : Dec P 0 t W e := fun H enc C w sp held fuel cs d _ hf h => by
  have : fuel = 0 := by omega
  subst this
  cases h
theorem dec_sl {P : Program} {N : Nat} {t e : TypeId} {α : Type} {W : α → Prop} (c : Cd α) (ht : P.underlying t = some (.slice e)) (hs : P.cellsOf e = c.sz) (hpos : Nat.blt 0 c.sz = true) (he : Dec P (N - 1) e W (fun x => c.row 0 x)) :
    Dec P N t (fun xs : List α => xs.length ≤ 9223372036854775807 ∧ ∀ x ∈ xs, W x) (fun xs => [.psl 0 c.sz (xs.map (c.enc 0))]) :=
  (dec_slice ht hs (by simpa using hpos) he).map (fun x => x) (fun _ h => h) (fun x => by rw [c.map_eq])
end Go.Abs
