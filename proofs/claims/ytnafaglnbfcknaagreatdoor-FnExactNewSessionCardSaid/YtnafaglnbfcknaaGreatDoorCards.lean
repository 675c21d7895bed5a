/-
  DERIVED. GIVEN WITH THE SEED: THE CARDS: each row of YtnafaglnbfcknaaGreatDoorRows.lean that lists a variable, with what it lists TIED to the program's text (the seventh form; the later family's looks); each row that meets fmt, with fmt's text TOLD by the authors' own Lean function (tested against real Go, not proved from fmt's source: count such statements apart). THE CARD IS WHAT COUNTS. Prove the row's statement (the work); the ties are given (YtnafaglnbfcknaaGreatDoorTie.lean); close each card by the builder's one call (the guide's Derived/Test/ToyasCard.lean, 'card_holds'). Laid BY PROGRAM, IN A SANDBOX (cutbox-door.mjs). By AI agents, Wed Nov 11 2026. No macro, syntax, notation, axiom, sorry.
-/
import Derived.Test.YtnafaglnbfcknaaGreatDoorRows
import GoSem.ClaimSeven
namespace Go.Proofs.YtnafaglnbfcknaaGreatDoor
namespace Rows

/-- THE TIED CARD OF 'laws.FnExactNewSession'. -/
def fnExactNewSessionCard : Claim7 := { stood := { row := fnExactNewSessionRow, standIns := [], harness := (true, "9c790f3ea40c404f6d3da75c73c51d92c7a2f8d70aa234b7c76ae4d554a170a9"), looks := true }, kinds := [], alts := [], laidByText := true, laidKinds := [.data, .data, .data, .sentinel, .sentinel], laidTests := true, laidLooks := .later }
def FnExactNewSessionCardSaid : Prop := Claim7.holds Tryz.pinned (.plain (OpenSpec.ofChange fnExactNewSessionSpec)) fnExactNewSessionCard

/-- THE SECOND FORM's CARD OF 'laws.FnExactNewSession'. -/
def fnExactNewSessionUptoCard : Claim7 := { stood := { row := fnExactNewSessionUptoRow, standIns := [], harness := (true, "9c790f3ea40c404f6d3da75c73c51d92c7a2f8d70aa234b7c76ae4d554a170a9"), looks := true }, kinds := [], alts := [], laidByText := true, laidKinds := [.data, .data, .data, .sentinel, .sentinel], laidTests := true, laidLooks := .later }
def FnExactNewSessionUptoCardSaid : Prop := Claim7.holds Tryz.pinned (.plain (OpenSpec.upto fnExactNewSessionSpec)) fnExactNewSessionUptoCard
end Rows
end Go.Proofs.YtnafaglnbfcknaaGreatDoor
