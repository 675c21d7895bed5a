/-
  NARROWER THAN 'FOR EVERY INPUT', by the rows' own cells (each row's printed sentence says how): FnExactSubstituteCore: loops · FnExactFoldApplication: loops · FnExactLinkObjects: loops.
  DERIVED. THE GIVEN ROWS OF THIS SEAT. 3 by the template 'for every input the law returns true; each argument reads behind the call as it read before'; 0 by the template 'total and deterministic' (their statements: YtmgigglpdhoneaaTotals.lean).
  GIVEN WITH THE SEED: the statements are not yours to turn. If you find one false, say at which input.
  Laid BY PROGRAM, IN A SANDBOX (cutbox-rows.mjs): the forced cells as the released guide's own fill.sh prints them over the translation 49fd385036d085d6… (all of the seat's roots in one cut). By AI agents, Wed Nov 11 2026. No macro, syntax, notation, axiom, sorry.
-/
import Derived.Test.YtmgigglpdhoneaaChecked
import GoSem.Claim
import GoSem.ClaimJoined
import GoSem.ClaimMapViews
import Derived.JoinedTies
import Derived.KernelRfl
namespace Go.Proofs.Ytmgigglpdhoneaa
/- THE CELL 'sum', in the pinned program and in every row, IS THE sha256 OF THE DUMP (.gsa) THAT YtmgigglpdhoneaaProg.lean LOADS. Nothing in Lean hashes anything: it is a label: what it is worth is what the hold of that sum in a sandbox is worth. -/
noncomputable def Try.pinned : Pinned := { name := "ytmgigglpdhoneaa", sum := "49fd385036d085d6971ba6a64d994b152f7df04cde6185dbbc196e1045155533", checked := Try.checked }
namespace Rows
def none {H : Type} : Left H := { results := [], args := [] }

/-- 'laws.FnExactSubstituteCore': WHATEVER THE INPUT: true; the input reads as it did. -/
def fnExactSubstituteCoreSpec : ChangeSpec := { name := "fnExactSubstituteCore", fn := fun _ => fun
  | [d1, d2, d3] => { results := [.lit (.bool true)], args := [d1, d2, d3] }
  | _ => none }
def fnExactSubstituteCoreRow : OpenClaim := { program := "ytmgigglpdhoneaa", sum := "49fd385036d085d6971ba6a64d994b152f7df04cde6185dbbc196e1045155533", func := "loop.example/g03220/laws.FnExactSubstituteCore", spec := "fnExactSubstituteCore", recurses := true, loops := true, apart := false }
def FnExactSubstituteCoreSaid : Prop := fnExactSubstituteCoreRow.holds Try.pinned (OpenSpec.ofChange fnExactSubstituteCoreSpec)

/-- ITS FALSE NEIGHBOUR: 'it returns false'. Refute it at one input. -/
def fnExactSubstituteCoreWrong : ChangeSpec := { name := "fnExactSubstituteCore", fn := fun _ => fun
  | [d1, d2, d3] => { results := [.lit (.bool false)], args := [d1, d2, d3] }
  | _ => none }
def FnExactSubstituteCoreWrongFalsely : Prop := fnExactSubstituteCoreRow.holds Try.pinned (OpenSpec.ofChange fnExactSubstituteCoreWrong)

/-- 'laws.FnExactFoldApplication': WHATEVER THE INPUT: true; the input reads as it did. -/
def fnExactFoldApplicationSpec : ChangeSpec := { name := "fnExactFoldApplication", fn := fun _ => fun
  | [d] => { results := [.lit (.bool true)], args := [d] }
  | _ => none }
def fnExactFoldApplicationRow : OpenClaim := { program := "ytmgigglpdhoneaa", sum := "49fd385036d085d6971ba6a64d994b152f7df04cde6185dbbc196e1045155533", func := "loop.example/g03220/laws.FnExactFoldApplication", spec := "fnExactFoldApplication", recurses := true, loops := true, apart := false }
def FnExactFoldApplicationSaid : Prop := fnExactFoldApplicationRow.holds Try.pinned (OpenSpec.ofChange fnExactFoldApplicationSpec)

/-- ITS FALSE NEIGHBOUR: 'it returns false'. Refute it at one input. -/
def fnExactFoldApplicationWrong : ChangeSpec := { name := "fnExactFoldApplication", fn := fun _ => fun
  | [d] => { results := [.lit (.bool false)], args := [d] }
  | _ => none }
def FnExactFoldApplicationWrongFalsely : Prop := fnExactFoldApplicationRow.holds Try.pinned (OpenSpec.ofChange fnExactFoldApplicationWrong)

/-- 'laws.FnExactLinkObjects': WHATEVER THE INPUT: true; the input reads as it did. -/
def fnExactLinkObjectsSpec : ChangeSpec := { name := "fnExactLinkObjects", fn := fun _ => fun
  | [d] => { results := [.lit (.bool true)], args := [d] }
  | _ => none }
def fnExactLinkObjectsRow : OpenClaim := { program := "ytmgigglpdhoneaa", sum := "49fd385036d085d6971ba6a64d994b152f7df04cde6185dbbc196e1045155533", func := "loop.example/g03220/laws.FnExactLinkObjects", spec := "fnExactLinkObjects", recurses := true, loops := true, apart := false }
def FnExactLinkObjectsSaid : Prop := fnExactLinkObjectsRow.holds Try.pinned (OpenSpec.ofChange fnExactLinkObjectsSpec)

/-- ITS FALSE NEIGHBOUR: 'it returns false'. Refute it at one input. -/
def fnExactLinkObjectsWrong : ChangeSpec := { name := "fnExactLinkObjects", fn := fun _ => fun
  | [d] => { results := [.lit (.bool false)], args := [d] }
  | _ => none }
def FnExactLinkObjectsWrongFalsely : Prop := fnExactLinkObjectsRow.holds Try.pinned (OpenSpec.ofChange fnExactLinkObjectsWrong)

/- THE SECOND FORM. 'bulk': how many values and letters a reading holds, each counted each time it is reached (what is shared counts as often as it is met; a slice's spare places count too). A statement '..UptoSaid' is the law's where the arguments, and the package variables that the reading takes, are together of bulk at most 1048576: NARROWER than '..Said'. Prove '..Said' where nothing that the law and all that it calls make is longer than what came in: it says more and counts as full. Else prove '..UptoSaid'. A law counts once. -/
mutual
def uptoBulk {H : Type} : DataW H → Nat
  | .lit (.string bytes) => bytes.length + 1
  | .lit _ => 1
  | .nil => 1
  | .ptr d => uptoBulk d + 1
  | .slice elems spare => uptoBulkAll elems + uptoBulkAll spare + 1
  | .agg parts => uptoBulkAll parts + 1
  | .iface _ d => uptoBulk d + 1
  | .map entries => uptoBulkEntries entries + 1
  | .held _ => 1
def uptoBulkAll {H : Type} : List (DataW H) → Nat
  | [] => 0
  | d :: r => uptoBulk d + uptoBulkAll r
def uptoBulkEntries {H : Type} : List (Lit × DataW H) → Nat
  | [] => 0
  | x :: r => uptoBulkEntry x + uptoBulkEntries r
def uptoBulkEntry {H : Type} : Lit × DataW H → Nat
  | (.string bytes, d) => bytes.length + uptoBulk d + 1
  | (_, d) => uptoBulk d + 1
 end
def uptoSmall : (H : Type) → List (DataW H) → Bool := fun _ ds => decide (uptoBulkAll ds ≤ 1048576)
def OpenSpec.upto (s : _root_.Go.ChangeSpec) : _root_.Go.OpenSpec := { _root_.Go.OpenSpec.ofChange s with cond := some uptoSmall }

/-- 'laws.FnExactSubstituteCore', WHERE WHAT IT READS IS OF BULK AT MOST 1048576: true; the input reads as it did. -/
def fnExactSubstituteCoreUptoRow : OpenClaim := { program := "ytmgigglpdhoneaa", sum := "49fd385036d085d6971ba6a64d994b152f7df04cde6185dbbc196e1045155533", func := "loop.example/g03220/laws.FnExactSubstituteCore", spec := "fnExactSubstituteCore", recurses := true, loops := true, apart := false, narrowed := true }
def FnExactSubstituteCoreUptoSaid : Prop := fnExactSubstituteCoreUptoRow.holds Try.pinned (OpenSpec.upto fnExactSubstituteCoreSpec)

/-- 'laws.FnExactFoldApplication', WHERE WHAT IT READS IS OF BULK AT MOST 1048576: true; the input reads as it did. -/
def fnExactFoldApplicationUptoRow : OpenClaim := { program := "ytmgigglpdhoneaa", sum := "49fd385036d085d6971ba6a64d994b152f7df04cde6185dbbc196e1045155533", func := "loop.example/g03220/laws.FnExactFoldApplication", spec := "fnExactFoldApplication", recurses := true, loops := true, apart := false, narrowed := true }
def FnExactFoldApplicationUptoSaid : Prop := fnExactFoldApplicationUptoRow.holds Try.pinned (OpenSpec.upto fnExactFoldApplicationSpec)

/-- 'laws.FnExactLinkObjects', WHERE WHAT IT READS IS OF BULK AT MOST 1048576: true; the input reads as it did. -/
def fnExactLinkObjectsUptoRow : OpenClaim := { program := "ytmgigglpdhoneaa", sum := "49fd385036d085d6971ba6a64d994b152f7df04cde6185dbbc196e1045155533", func := "loop.example/g03220/laws.FnExactLinkObjects", spec := "fnExactLinkObjects", recurses := true, loops := true, apart := false, narrowed := true }
def FnExactLinkObjectsUptoSaid : Prop := fnExactLinkObjectsUptoRow.holds Try.pinned (OpenSpec.upto fnExactLinkObjectsSpec)

end Rows
end Go.Proofs.Ytmgigglpdhoneaa
