/-
  NARROWER THAN 'FOR EVERY INPUT', by the rows' own cells (each row's printed sentence says how): FnExactCompileCore: loops · FnExactOptimizeUnits: loops · FnExactCompileUnit: loops.
  DERIVED. THE GIVEN ROWS OF THIS SEAT. 3 by the template 'for every input the law returns true; each argument reads behind the call as it read before'; 0 by the template 'total and deterministic' (their statements: YtllbdfllngpkaaaGreatTotals.lean).
  GIVEN WITH THE SEED: the statements are not yours to turn. If you find one false, say at which input.
  Laid BY PROGRAM, IN A SANDBOX (cutbox-rows.mjs): the forced cells as the released guide's own fill.sh prints them over the translation 7850aed46bf58a90… (all of the seat's roots in one cut). By AI agents, Wed Nov 11 2026. No macro, syntax, notation, axiom, sorry.
-/
import Derived.Test.YtllbdfllngpkaaaGreatChecked
import GoSem.Claim
import GoSem.ClaimJoined
import GoSem.ClaimMapViews
import Derived.JoinedTies
import Derived.KernelRfl
namespace Go.Proofs.YtllbdfllngpkaaaGreat
/- THE CELL 'sum', in the pinned program and in every row, IS THE sha256 OF THE DUMP (.gsa) THAT YtllbdfllngpkaaaGreatProg.lean LOADS. Nothing in Lean hashes anything: it is a label: what it is worth is what the hold of that sum in a sandbox is worth. -/
noncomputable def Tryz.pinned : Pinned := { name := "ytllbdfllngpkaaagreat", sum := "7850aed46bf58a90822c7a7a5f0390f82c5ffb323daaafd52787ae4bbc274cdc", checked := Tryz.checked }
namespace Rows
def none {H : Type} : Left H := { results := [], args := [] }

/-- 'laws.FnExactCompileCore': WHATEVER THE INPUT: true; the input reads as it did. -/
def fnExactCompileCoreSpec : ChangeSpec := { name := "fnExactCompileCore", fn := fun _ => fun
  | [d] => { results := [.lit (.bool true)], args := [d] }
  | _ => none }
def fnExactCompileCoreRow : OpenClaim := { program := "ytllbdfllngpkaaagreat", sum := "7850aed46bf58a90822c7a7a5f0390f82c5ffb323daaafd52787ae4bbc274cdc", func := "loop.example/g03220/laws.FnExactCompileCore", spec := "fnExactCompileCore", recurses := true, loops := true, apart := false }
def FnExactCompileCoreSaid : Prop := fnExactCompileCoreRow.holds Tryz.pinned (OpenSpec.ofChange fnExactCompileCoreSpec)

/-- ITS FALSE NEIGHBOUR: 'it returns false'. Refute it at one input. -/
def fnExactCompileCoreWrong : ChangeSpec := { name := "fnExactCompileCore", fn := fun _ => fun
  | [d] => { results := [.lit (.bool false)], args := [d] }
  | _ => none }
def FnExactCompileCoreWrongFalsely : Prop := fnExactCompileCoreRow.holds Tryz.pinned (OpenSpec.ofChange fnExactCompileCoreWrong)

/-- 'laws.FnExactOptimizeUnits': WHATEVER THE INPUT: true; the input reads as it did. -/
def fnExactOptimizeUnitsSpec : ChangeSpec := { name := "fnExactOptimizeUnits", fn := fun _ => fun
  | [d] => { results := [.lit (.bool true)], args := [d] }
  | _ => none }
def fnExactOptimizeUnitsRow : OpenClaim := { program := "ytllbdfllngpkaaagreat", sum := "7850aed46bf58a90822c7a7a5f0390f82c5ffb323daaafd52787ae4bbc274cdc", func := "loop.example/g03220/laws.FnExactOptimizeUnits", spec := "fnExactOptimizeUnits", recurses := true, loops := true, apart := false }
def FnExactOptimizeUnitsSaid : Prop := fnExactOptimizeUnitsRow.holds Tryz.pinned (OpenSpec.ofChange fnExactOptimizeUnitsSpec)

/-- ITS FALSE NEIGHBOUR: 'it returns false'. Refute it at one input. -/
def fnExactOptimizeUnitsWrong : ChangeSpec := { name := "fnExactOptimizeUnits", fn := fun _ => fun
  | [d] => { results := [.lit (.bool false)], args := [d] }
  | _ => none }
def FnExactOptimizeUnitsWrongFalsely : Prop := fnExactOptimizeUnitsRow.holds Tryz.pinned (OpenSpec.ofChange fnExactOptimizeUnitsWrong)

/-- 'laws.FnExactCompileUnit': WHATEVER THE INPUT: true; the input reads as it did. -/
def fnExactCompileUnitSpec : ChangeSpec := { name := "fnExactCompileUnit", fn := fun _ => fun
  | [d] => { results := [.lit (.bool true)], args := [d] }
  | _ => none }
def fnExactCompileUnitRow : OpenClaim := { program := "ytllbdfllngpkaaagreat", sum := "7850aed46bf58a90822c7a7a5f0390f82c5ffb323daaafd52787ae4bbc274cdc", func := "loop.example/g03220/laws.FnExactCompileUnit", spec := "fnExactCompileUnit", recurses := true, loops := true, apart := false }
def FnExactCompileUnitSaid : Prop := fnExactCompileUnitRow.holds Tryz.pinned (OpenSpec.ofChange fnExactCompileUnitSpec)

/-- ITS FALSE NEIGHBOUR: 'it returns false'. Refute it at one input. -/
def fnExactCompileUnitWrong : ChangeSpec := { name := "fnExactCompileUnit", fn := fun _ => fun
  | [d] => { results := [.lit (.bool false)], args := [d] }
  | _ => none }
def FnExactCompileUnitWrongFalsely : Prop := fnExactCompileUnitRow.holds Tryz.pinned (OpenSpec.ofChange fnExactCompileUnitWrong)

/- THE SECOND FORM. 'bulk': how many values and letters a reading holds, each counted each time it is reached (what is shared counts as often as it is met; a slice's spare places count too). A statement '..UptoSaid' is the law's where the arguments, and the package variables that the reading takes, are together of bulk at most 1048576: NARROWER than '..Said'. Prove '..Said' where nothing that the law and all that it calls make is longer than what came in: it says more and counts as full. Else prove '..UptoSaid'. A law counts once. -/
mutual
def uptoBulk {H : Type} : DataW H → Nat
  | .lit (.string bytes) => bytes.length + 1
  | .lit _ => 1
  | .nil => 1
  | .ptr d => uptoBulk d + 1
  | .slice elems spare => uptoBulkAll elems + uptoBulkAll spare + 1
  | .agg parts => uptoBulkAll parts + 1
  | .iface _ d => uptoBulk d + 1
  | .map entries => uptoBulkEntries entries + 1
  | .held _ => 1
def uptoBulkAll {H : Type} : List (DataW H) → Nat
  | [] => 0
  | d :: r => uptoBulk d + uptoBulkAll r
def uptoBulkEntries {H : Type} : List (Lit × DataW H) → Nat
  | [] => 0
  | x :: r => uptoBulkEntry x + uptoBulkEntries r
def uptoBulkEntry {H : Type} : Lit × DataW H → Nat
  | (.string bytes, d) => bytes.length + uptoBulk d + 1
  | (_, d) => uptoBulk d + 1
 end
def uptoSmall : (H : Type) → List (DataW H) → Bool := fun _ ds => decide (uptoBulkAll ds ≤ 1048576)
def OpenSpec.upto (s : _root_.Go.ChangeSpec) : _root_.Go.OpenSpec := { _root_.Go.OpenSpec.ofChange s with cond := some uptoSmall }

/-- 'laws.FnExactCompileCore', WHERE WHAT IT READS IS OF BULK AT MOST 1048576: true; the input reads as it did. -/
def fnExactCompileCoreUptoRow : OpenClaim := { program := "ytllbdfllngpkaaagreat", sum := "7850aed46bf58a90822c7a7a5f0390f82c5ffb323daaafd52787ae4bbc274cdc", func := "loop.example/g03220/laws.FnExactCompileCore", spec := "fnExactCompileCore", recurses := true, loops := true, apart := false, narrowed := true }
def FnExactCompileCoreUptoSaid : Prop := fnExactCompileCoreUptoRow.holds Tryz.pinned (OpenSpec.upto fnExactCompileCoreSpec)

/-- 'laws.FnExactOptimizeUnits', WHERE WHAT IT READS IS OF BULK AT MOST 1048576: true; the input reads as it did. -/
def fnExactOptimizeUnitsUptoRow : OpenClaim := { program := "ytllbdfllngpkaaagreat", sum := "7850aed46bf58a90822c7a7a5f0390f82c5ffb323daaafd52787ae4bbc274cdc", func := "loop.example/g03220/laws.FnExactOptimizeUnits", spec := "fnExactOptimizeUnits", recurses := true, loops := true, apart := false, narrowed := true }
def FnExactOptimizeUnitsUptoSaid : Prop := fnExactOptimizeUnitsUptoRow.holds Tryz.pinned (OpenSpec.upto fnExactOptimizeUnitsSpec)

/-- 'laws.FnExactCompileUnit', WHERE WHAT IT READS IS OF BULK AT MOST 1048576: true; the input reads as it did. -/
def fnExactCompileUnitUptoRow : OpenClaim := { program := "ytllbdfllngpkaaagreat", sum := "7850aed46bf58a90822c7a7a5f0390f82c5ffb323daaafd52787ae4bbc274cdc", func := "loop.example/g03220/laws.FnExactCompileUnit", spec := "fnExactCompileUnit", recurses := true, loops := true, apart := false, narrowed := true }
def FnExactCompileUnitUptoSaid : Prop := fnExactCompileUnitUptoRow.holds Tryz.pinned (OpenSpec.upto fnExactCompileUnitSpec)

end Rows
end Go.Proofs.YtllbdfllngpkaaaGreat
