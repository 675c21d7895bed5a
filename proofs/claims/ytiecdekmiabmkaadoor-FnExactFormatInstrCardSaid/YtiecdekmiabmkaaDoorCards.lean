/-
  DERIVED. GIVEN WITH THE SEED: THE CARDS: each row of YtiecdekmiabmkaaDoorRows.lean that lists a variable, with what it lists TIED to the program's text (the seventh form; the later family's looks); each row that meets fmt, with fmt's text TOLD by the authors' own Lean function (tested against real Go, not proved from fmt's source: count such statements apart). THE CARD IS WHAT COUNTS. Prove the row's statement (the work); the ties are given (YtiecdekmiabmkaaDoorTie.lean); close each card by the builder's one call (the guide's Derived/Test/ToyasCard.lean, 'card_holds'). Laid BY PROGRAM, IN A SANDBOX (cutbox-door.mjs). By AI agents, Wed Nov 11 2026. No macro, syntax, notation, axiom, sorry.
-/
import Derived.Test.YtiecdekmiabmkaaDoorRows
import GoSem.ClaimSeven
namespace Go.Proofs.YtiecdekmiabmkaaDoor
namespace Rows

/-- THE TIED CARD OF 'laws.FnExactOpName'. -/
def fnExactOpNameCard : Claim7 := { stood := { row := fnExactOpNameRow, standIns := [], harness := (true, "80ca047caf73b34875290d83eaa16c118e5e277581385519c430ffc9b252f019"), looks := false }, kinds := [], alts := [], laidByText := true, laidKinds := [.data], laidTests := true, laidLooks := .later }
def FnExactOpNameCardSaid : Prop := Claim7.holds Tryd.pinned (.plain (OpenSpec.ofChange fnExactOpNameSpec)) fnExactOpNameCard

/-- THE TIED CARD OF 'laws.FnExactFormatValue'. -/
def fnExactFormatValueCard : Claim7 := { stood := { row := fnExactFormatValueRow, standIns := [], harness := (true, "80ca047caf73b34875290d83eaa16c118e5e277581385519c430ffc9b252f019"), looks := false }, kinds := [], alts := [], laidByText := true, laidKinds := [.data, .data, .data], laidTests := true, laidLooks := .later }
def FnExactFormatValueCardSaid : Prop := Claim7.holds Tryd.pinned (.plain (OpenSpec.ofChange fnExactFormatValueSpec)) fnExactFormatValueCard

/-- THE TIED CARD OF 'laws.FnExactFormatInstr'. -/
def fnExactFormatInstrCard : Claim7 := { stood := { row := fnExactFormatInstrRow, standIns := [], harness := (true, "80ca047caf73b34875290d83eaa16c118e5e277581385519c430ffc9b252f019"), looks := false }, kinds := [], alts := [], laidByText := true, laidKinds := [.data, .data, .data, .data], laidTests := true, laidLooks := .later }
def FnExactFormatInstrCardSaid : Prop := Claim7.holds Tryd.pinned (.plain (OpenSpec.ofChange fnExactFormatInstrSpec)) fnExactFormatInstrCard

/-- THE SECOND FORM's CARD OF 'laws.FnExactOpName'. -/
def fnExactOpNameUptoCard : Claim7 := { stood := { row := fnExactOpNameUptoRow, standIns := [], harness := (true, "80ca047caf73b34875290d83eaa16c118e5e277581385519c430ffc9b252f019"), looks := false }, kinds := [], alts := [], laidByText := true, laidKinds := [.data], laidTests := true, laidLooks := .later }
def FnExactOpNameUptoCardSaid : Prop := Claim7.holds Tryd.pinned (.plain (OpenSpec.upto fnExactOpNameSpec)) fnExactOpNameUptoCard

/-- THE SECOND FORM's CARD OF 'laws.FnExactFormatValue'. -/
def fnExactFormatValueUptoCard : Claim7 := { stood := { row := fnExactFormatValueUptoRow, standIns := [], harness := (true, "80ca047caf73b34875290d83eaa16c118e5e277581385519c430ffc9b252f019"), looks := false }, kinds := [], alts := [], laidByText := true, laidKinds := [.data, .data, .data], laidTests := true, laidLooks := .later }
def FnExactFormatValueUptoCardSaid : Prop := Claim7.holds Tryd.pinned (.plain (OpenSpec.upto fnExactFormatValueSpec)) fnExactFormatValueUptoCard

/-- THE SECOND FORM's CARD OF 'laws.FnExactFormatInstr'. -/
def fnExactFormatInstrUptoCard : Claim7 := { stood := { row := fnExactFormatInstrUptoRow, standIns := [], harness := (true, "80ca047caf73b34875290d83eaa16c118e5e277581385519c430ffc9b252f019"), looks := false }, kinds := [], alts := [], laidByText := true, laidKinds := [.data, .data, .data, .data], laidTests := true, laidLooks := .later }
def FnExactFormatInstrUptoCardSaid : Prop := Claim7.holds Tryd.pinned (.plain (OpenSpec.upto fnExactFormatInstrSpec)) fnExactFormatInstrUptoCard
end Rows
end Go.Proofs.YtiecdekmiabmkaaDoor
