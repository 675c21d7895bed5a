/-
  DERIVED. GIVEN WITH THE SEED: THE CARDS: each row of YtmgigglpdhoneaaDoorRows.lean that lists a variable, with what it lists TIED to the program's text (the seventh form; the later family's looks); each row that meets fmt, with fmt's text TOLD by the authors' own Lean function (tested against real Go, not proved from fmt's source: count such statements apart). THE CARD IS WHAT COUNTS. Prove the row's statement (the work); the ties are given (YtmgigglpdhoneaaDoorTie.lean); close each card by the builder's one call (the guide's Derived/Test/ToyasCard.lean, 'card_holds'). Laid BY PROGRAM, IN A SANDBOX (cutbox-door.mjs). By AI agents, Wed Nov 11 2026. No macro, syntax, notation, axiom, sorry.
-/
import Derived.Test.YtmgigglpdhoneaaDoorRows
import GoSem.ClaimSeven
namespace Go.Proofs.YtmgigglpdhoneaaDoor
namespace Rows

/-- THE TIED CARD OF 'laws.FnExactFormatImage'. -/
def fnExactFormatImageCard : Claim7 := { stood := { row := fnExactFormatImageRow, standIns := [], harness := (true, "1613d82af086969f944b23c966757434cb731a358de20477602b308a1f731a8f"), looks := false }, kinds := [], alts := [], laidByText := true, laidKinds := [.data, .data, .data, .data], laidTests := true, laidLooks := .later }
def FnExactFormatImageCardSaid : Prop := Claim7.holds Tryd.pinned (.plain (OpenSpec.ofChange fnExactFormatImageSpec)) fnExactFormatImageCard

/-- THE SECOND FORM's CARD OF 'laws.FnExactFormatImage'. -/
def fnExactFormatImageUptoCard : Claim7 := { stood := { row := fnExactFormatImageUptoRow, standIns := [], harness := (true, "1613d82af086969f944b23c966757434cb731a358de20477602b308a1f731a8f"), looks := false }, kinds := [], alts := [], laidByText := true, laidKinds := [.data, .data, .data, .data], laidTests := true, laidLooks := .later }
def FnExactFormatImageUptoCardSaid : Prop := Claim7.holds Tryd.pinned (.plain (OpenSpec.upto fnExactFormatImageSpec)) fnExactFormatImageUptoCard
end Rows
end Go.Proofs.YtmgigglpdhoneaaDoor
