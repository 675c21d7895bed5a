/-
  DERIVED. GIVEN WITH THE SEED: THE CARDS: each row of YtmgigglpdhoneaaGreatDoorRows.lean that lists a variable, with what it lists TIED to the program's text (the seventh form; the later family's looks); each row that meets fmt, with fmt's text TOLD by the authors' own Lean function (tested against real Go, not proved from fmt's source: count such statements apart). THE CARD IS WHAT COUNTS. Prove the row's statement (the work); the ties are given (YtmgigglpdhoneaaGreatDoorTie.lean); close each card by the builder's one call (the guide's Derived/Test/ToyasCard.lean, 'card_holds'). Laid BY PROGRAM, IN A SANDBOX (cutbox-door.mjs). By AI agents, Wed Nov 11 2026. No macro, syntax, notation, axiom, sorry.
-/
import Derived.Test.YtmgigglpdhoneaaGreatDoorRows
import GoSem.ClaimSeven
namespace Go.Proofs.YtmgigglpdhoneaaGreatDoor
namespace Rows

/-- THE TIED CARD OF 'laws.FnExactFormatObject'. -/
def fnExactFormatObjectCard : Claim7 := { stood := { row := fnExactFormatObjectRow, standIns := [], harness := (true, "84e29f272564966f8b2a43c6fa998a45463b66b26dff26f5e878db7665b1966f"), looks := true }, kinds := [], alts := [], laidByText := true, laidKinds := [.data, .data, .data, .data], laidTests := true, laidLooks := .later }
def FnExactFormatObjectCardSaid : Prop := Claim7.holds Tryz.pinned (.plain (OpenSpec.ofChange fnExactFormatObjectSpec)) fnExactFormatObjectCard

/-- THE TIED CARD OF 'laws.FnExactParseInstr'. -/
def fnExactParseInstrCard : Claim7 := { stood := { row := fnExactParseInstrRow, standIns := [], harness := (true, "84e29f272564966f8b2a43c6fa998a45463b66b26dff26f5e878db7665b1966f"), looks := true }, kinds := [], alts := [], laidByText := true, laidKinds := [.data, .data, .data, .sentinel, .sentinel, .data], laidTests := true, laidLooks := .later }
def FnExactParseInstrCardSaid : Prop := Claim7.holds Tryz.pinned (.plain (OpenSpec.ofChange fnExactParseInstrSpec)) fnExactParseInstrCard

/-- THE SECOND FORM's CARD OF 'laws.FnExactFormatObject'. -/
def fnExactFormatObjectUptoCard : Claim7 := { stood := { row := fnExactFormatObjectUptoRow, standIns := [], harness := (true, "84e29f272564966f8b2a43c6fa998a45463b66b26dff26f5e878db7665b1966f"), looks := true }, kinds := [], alts := [], laidByText := true, laidKinds := [.data, .data, .data, .data], laidTests := true, laidLooks := .later }
def FnExactFormatObjectUptoCardSaid : Prop := Claim7.holds Tryz.pinned (.plain (OpenSpec.upto fnExactFormatObjectSpec)) fnExactFormatObjectUptoCard

/-- THE SECOND FORM's CARD OF 'laws.FnExactParseInstr'. -/
def fnExactParseInstrUptoCard : Claim7 := { stood := { row := fnExactParseInstrUptoRow, standIns := [], harness := (true, "84e29f272564966f8b2a43c6fa998a45463b66b26dff26f5e878db7665b1966f"), looks := true }, kinds := [], alts := [], laidByText := true, laidKinds := [.data, .data, .data, .sentinel, .sentinel, .data], laidTests := true, laidLooks := .later }
def FnExactParseInstrUptoCardSaid : Prop := Claim7.holds Tryz.pinned (.plain (OpenSpec.upto fnExactParseInstrSpec)) fnExactParseInstrUptoCard
end Rows
end Go.Proofs.YtmgigglpdhoneaaGreatDoor
