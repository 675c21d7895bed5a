/-
  DERIVED. GIVEN WITH THE SEED: THE CARDS: each row of YtefjnefkdanakaaGreatDoorRows.lean that lists a variable, with what it lists TIED to the program's text (the seventh form; the later family's looks); each row that meets fmt, with fmt's text TOLD by the authors' own Lean function (tested against real Go, not proved from fmt's source: count such statements apart). THE CARD IS WHAT COUNTS. Prove the row's statement (the work); the ties are given (YtefjnefkdanakaaGreatDoorTie.lean); close each card by the builder's one call (the guide's Derived/Test/ToyasCard.lean, 'card_holds'). Laid BY PROGRAM, IN A SANDBOX (cutbox-door.mjs). By AI agents, Wed Nov 11 2026. No macro, syntax, notation, axiom, sorry.
-/
import Derived.Test.YtefjnefkdanakaaGreatDoorRows
import GoSem.ClaimSeven
namespace Go.Proofs.YtefjnefkdanakaaGreatDoor
namespace Rows

/-- THE TIED CARD OF 'laws.FnExactParseImage'. -/
def fnExactParseImageCard : Claim7 := { stood := { row := fnExactParseImageRow, standIns := [], harness := (true, "50148cda184087794d59dbe3c9c5a021069a90fd858dccdfe4285ba32ec251e1"), looks := true }, kinds := [], alts := [], laidByText := true, laidKinds := [.data, .data, .data, .data, .sentinel, .sentinel, .data, .pinned], laidTests := true, laidLooks := .later }
def FnExactParseImageCardSaid : Prop := Claim7.holds Tryz.pinned (.plain (OpenSpec.ofChange fnExactParseImageSpec)) fnExactParseImageCard

/-- THE TIED CARD OF 'laws.FnExactParseObject'. -/
def fnExactParseObjectCard : Claim7 := { stood := { row := fnExactParseObjectRow, standIns := [], harness := (true, "50148cda184087794d59dbe3c9c5a021069a90fd858dccdfe4285ba32ec251e1"), looks := true }, kinds := [], alts := [], laidByText := true, laidKinds := [.data, .data, .data, .data, .sentinel, .sentinel, .data, .pinned], laidTests := true, laidLooks := .later }
def FnExactParseObjectCardSaid : Prop := Claim7.holds Tryz.pinned (.plain (OpenSpec.ofChange fnExactParseObjectSpec)) fnExactParseObjectCard

/-- THE SECOND FORM's CARD OF 'laws.FnExactParseImage'. -/
def fnExactParseImageUptoCard : Claim7 := { stood := { row := fnExactParseImageUptoRow, standIns := [], harness := (true, "50148cda184087794d59dbe3c9c5a021069a90fd858dccdfe4285ba32ec251e1"), looks := true }, kinds := [], alts := [], laidByText := true, laidKinds := [.data, .data, .data, .data, .sentinel, .sentinel, .data, .pinned], laidTests := true, laidLooks := .later }
def FnExactParseImageUptoCardSaid : Prop := Claim7.holds Tryz.pinned (.plain (OpenSpec.upto fnExactParseImageSpec)) fnExactParseImageUptoCard

/-- THE SECOND FORM's CARD OF 'laws.FnExactParseObject'. -/
def fnExactParseObjectUptoCard : Claim7 := { stood := { row := fnExactParseObjectUptoRow, standIns := [], harness := (true, "50148cda184087794d59dbe3c9c5a021069a90fd858dccdfe4285ba32ec251e1"), looks := true }, kinds := [], alts := [], laidByText := true, laidKinds := [.data, .data, .data, .data, .sentinel, .sentinel, .data, .pinned], laidTests := true, laidLooks := .later }
def FnExactParseObjectUptoCardSaid : Prop := Claim7.holds Tryz.pinned (.plain (OpenSpec.upto fnExactParseObjectSpec)) fnExactParseObjectUptoCard
end Rows
end Go.Proofs.YtefjnefkdanakaaGreatDoor
