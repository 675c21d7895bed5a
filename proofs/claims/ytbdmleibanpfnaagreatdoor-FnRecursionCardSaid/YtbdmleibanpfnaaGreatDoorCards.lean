/-
  DERIVED. GIVEN WITH THE SEED: THE CARDS: each row of YtbdmleibanpfnaaGreatDoorRows.lean that lists a variable, with what it lists TIED to the program's text (the seventh form; the later family's looks); each row that meets fmt, with fmt's text TOLD by the authors' own Lean function (tested against real Go, not proved from fmt's source: count such statements apart). THE CARD IS WHAT COUNTS. Prove the row's statement (the work); the ties are given (YtbdmleibanpfnaaGreatDoorTie.lean); close each card by the builder's one call (the guide's Derived/Test/ToyasCard.lean, 'card_holds'). Laid BY PROGRAM, IN A SANDBOX (cutbox-door.mjs). By AI agents, Wed Nov 11 2026. No macro, syntax, notation, axiom, sorry.
-/
import Derived.Test.YtbdmleibanpfnaaGreatDoorRows
import GoSem.ClaimSeven
namespace Go.Proofs.YtbdmleibanpfnaaGreatDoor
namespace Rows

/-- THE TIED CARD OF 'laws.FnLoops'. -/
def fnLoopsCard : Claim7 := { stood := { row := fnLoopsRow, standIns := [], harness := (true, "12db2fdf5f1fb5c458738718145fc5726b1a51dc0347fecbd42723abeb9fdacc"), looks := true }, kinds := [], alts := [], laidByText := true, laidKinds := [.data, .data, .data, .data], laidTests := true, laidLooks := .later }
def FnLoopsCardSaid : Prop := Claim7.holds Tryz.pinned (.plain (OpenSpec.ofChange fnLoopsSpec)) fnLoopsCard

/-- THE TIED CARD OF 'laws.FnPrivate'. -/
def fnPrivateCard : Claim7 := { stood := { row := fnPrivateRow, standIns := [], harness := (true, "12db2fdf5f1fb5c458738718145fc5726b1a51dc0347fecbd42723abeb9fdacc"), looks := true }, kinds := [], alts := [], laidByText := true, laidKinds := [.data, .data, .data, .sentinel, .sentinel], laidTests := true, laidLooks := .later }
def FnPrivateCardSaid : Prop := Claim7.holds Tryz.pinned (.plain (OpenSpec.ofChange fnPrivateSpec)) fnPrivateCard

/-- THE TIED CARD OF 'laws.FnAborted'. -/
def fnAbortedCard : Claim7 := { stood := { row := fnAbortedRow, standIns := [], harness := (true, "12db2fdf5f1fb5c458738718145fc5726b1a51dc0347fecbd42723abeb9fdacc"), looks := true }, kinds := [], alts := [], laidByText := true, laidKinds := [.data, .data, .data, .data], laidTests := true, laidLooks := .later }
def FnAbortedCardSaid : Prop := Claim7.holds Tryz.pinned (.plain (OpenSpec.ofChange fnAbortedSpec)) fnAbortedCard

/-- THE TIED CARD OF 'laws.FnLiterals'. -/
def fnLiteralsCard : Claim7 := { stood := { row := fnLiteralsRow, standIns := [], harness := (true, "12db2fdf5f1fb5c458738718145fc5726b1a51dc0347fecbd42723abeb9fdacc"), looks := true }, kinds := [], alts := [], laidByText := true, laidKinds := [.data, .data, .data, .data], laidTests := true, laidLooks := .later }
def FnLiteralsCardSaid : Prop := Claim7.holds Tryz.pinned (.plain (OpenSpec.ofChange fnLiteralsSpec)) fnLiteralsCard

/-- THE TIED CARD OF 'laws.FnManyShots'. -/
def fnManyShotsCard : Claim7 := { stood := { row := fnManyShotsRow, standIns := [], harness := (true, "12db2fdf5f1fb5c458738718145fc5726b1a51dc0347fecbd42723abeb9fdacc"), looks := true }, kinds := [], alts := [], laidByText := true, laidKinds := [.data, .data, .data, .data], laidTests := true, laidLooks := .later }
def FnManyShotsCardSaid : Prop := Claim7.holds Tryz.pinned (.plain (OpenSpec.ofChange fnManyShotsSpec)) fnManyShotsCard

/-- THE TIED CARD OF 'laws.FnShadowed'. -/
def fnShadowedCard : Claim7 := { stood := { row := fnShadowedRow, standIns := [], harness := (true, "12db2fdf5f1fb5c458738718145fc5726b1a51dc0347fecbd42723abeb9fdacc"), looks := true }, kinds := [], alts := [], laidByText := true, laidKinds := [.data, .data, .data, .data], laidTests := true, laidLooks := .later }
def FnShadowedCardSaid : Prop := Claim7.holds Tryz.pinned (.plain (OpenSpec.ofChange fnShadowedSpec)) fnShadowedCard

/-- THE TIED CARD OF 'laws.FnCapture'. -/
def fnCaptureCard : Claim7 := { stood := { row := fnCaptureRow, standIns := [], harness := (true, "12db2fdf5f1fb5c458738718145fc5726b1a51dc0347fecbd42723abeb9fdacc"), looks := true }, kinds := [], alts := [], laidByText := true, laidKinds := [.data, .data, .data, .data], laidTests := true, laidLooks := .later }
def FnCaptureCardSaid : Prop := Claim7.holds Tryz.pinned (.plain (OpenSpec.ofChange fnCaptureSpec)) fnCaptureCard

/-- THE TIED CARD OF 'laws.FnRecursion'. -/
def fnRecursionCard : Claim7 := { stood := { row := fnRecursionRow, standIns := [], harness := (true, "12db2fdf5f1fb5c458738718145fc5726b1a51dc0347fecbd42723abeb9fdacc"), looks := true }, kinds := [], alts := [], laidByText := true, laidKinds := [.data, .data, .data, .data], laidTests := true, laidLooks := .later }
def FnRecursionCardSaid : Prop := Claim7.holds Tryz.pinned (.plain (OpenSpec.ofChange fnRecursionSpec)) fnRecursionCard

/-- THE SECOND FORM's CARD OF 'laws.FnLoops'. -/
def fnLoopsUptoCard : Claim7 := { stood := { row := fnLoopsUptoRow, standIns := [], harness := (true, "12db2fdf5f1fb5c458738718145fc5726b1a51dc0347fecbd42723abeb9fdacc"), looks := true }, kinds := [], alts := [], laidByText := true, laidKinds := [.data, .data, .data, .data], laidTests := true, laidLooks := .later }
def FnLoopsUptoCardSaid : Prop := Claim7.holds Tryz.pinned (.plain (OpenSpec.upto fnLoopsSpec)) fnLoopsUptoCard

/-- THE SECOND FORM's CARD OF 'laws.FnPrivate'. -/
def fnPrivateUptoCard : Claim7 := { stood := { row := fnPrivateUptoRow, standIns := [], harness := (true, "12db2fdf5f1fb5c458738718145fc5726b1a51dc0347fecbd42723abeb9fdacc"), looks := true }, kinds := [], alts := [], laidByText := true, laidKinds := [.data, .data, .data, .sentinel, .sentinel], laidTests := true, laidLooks := .later }
def FnPrivateUptoCardSaid : Prop := Claim7.holds Tryz.pinned (.plain (OpenSpec.upto fnPrivateSpec)) fnPrivateUptoCard

/-- THE SECOND FORM's CARD OF 'laws.FnAborted'. -/
def fnAbortedUptoCard : Claim7 := { stood := { row := fnAbortedUptoRow, standIns := [], harness := (true, "12db2fdf5f1fb5c458738718145fc5726b1a51dc0347fecbd42723abeb9fdacc"), looks := true }, kinds := [], alts := [], laidByText := true, laidKinds := [.data, .data, .data, .data], laidTests := true, laidLooks := .later }
def FnAbortedUptoCardSaid : Prop := Claim7.holds Tryz.pinned (.plain (OpenSpec.upto fnAbortedSpec)) fnAbortedUptoCard

/-- THE SECOND FORM's CARD OF 'laws.FnLiterals'. -/
def fnLiteralsUptoCard : Claim7 := { stood := { row := fnLiteralsUptoRow, standIns := [], harness := (true, "12db2fdf5f1fb5c458738718145fc5726b1a51dc0347fecbd42723abeb9fdacc"), looks := true }, kinds := [], alts := [], laidByText := true, laidKinds := [.data, .data, .data, .data], laidTests := true, laidLooks := .later }
def FnLiteralsUptoCardSaid : Prop := Claim7.holds Tryz.pinned (.plain (OpenSpec.upto fnLiteralsSpec)) fnLiteralsUptoCard

/-- THE SECOND FORM's CARD OF 'laws.FnManyShots'. -/
def fnManyShotsUptoCard : Claim7 := { stood := { row := fnManyShotsUptoRow, standIns := [], harness := (true, "12db2fdf5f1fb5c458738718145fc5726b1a51dc0347fecbd42723abeb9fdacc"), looks := true }, kinds := [], alts := [], laidByText := true, laidKinds := [.data, .data, .data, .data], laidTests := true, laidLooks := .later }
def FnManyShotsUptoCardSaid : Prop := Claim7.holds Tryz.pinned (.plain (OpenSpec.upto fnManyShotsSpec)) fnManyShotsUptoCard

/-- THE SECOND FORM's CARD OF 'laws.FnShadowed'. -/
def fnShadowedUptoCard : Claim7 := { stood := { row := fnShadowedUptoRow, standIns := [], harness := (true, "12db2fdf5f1fb5c458738718145fc5726b1a51dc0347fecbd42723abeb9fdacc"), looks := true }, kinds := [], alts := [], laidByText := true, laidKinds := [.data, .data, .data, .data], laidTests := true, laidLooks := .later }
def FnShadowedUptoCardSaid : Prop := Claim7.holds Tryz.pinned (.plain (OpenSpec.upto fnShadowedSpec)) fnShadowedUptoCard

/-- THE SECOND FORM's CARD OF 'laws.FnCapture'. -/
def fnCaptureUptoCard : Claim7 := { stood := { row := fnCaptureUptoRow, standIns := [], harness := (true, "12db2fdf5f1fb5c458738718145fc5726b1a51dc0347fecbd42723abeb9fdacc"), looks := true }, kinds := [], alts := [], laidByText := true, laidKinds := [.data, .data, .data, .data], laidTests := true, laidLooks := .later }
def FnCaptureUptoCardSaid : Prop := Claim7.holds Tryz.pinned (.plain (OpenSpec.upto fnCaptureSpec)) fnCaptureUptoCard

/-- THE SECOND FORM's CARD OF 'laws.FnRecursion'. -/
def fnRecursionUptoCard : Claim7 := { stood := { row := fnRecursionUptoRow, standIns := [], harness := (true, "12db2fdf5f1fb5c458738718145fc5726b1a51dc0347fecbd42723abeb9fdacc"), looks := true }, kinds := [], alts := [], laidByText := true, laidKinds := [.data, .data, .data, .data], laidTests := true, laidLooks := .later }
def FnRecursionUptoCardSaid : Prop := Claim7.holds Tryz.pinned (.plain (OpenSpec.upto fnRecursionSpec)) fnRecursionUptoCard
end Rows
end Go.Proofs.YtbdmleibanpfnaaGreatDoor
