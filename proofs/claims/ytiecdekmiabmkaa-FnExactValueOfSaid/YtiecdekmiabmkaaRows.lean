/-
  NARROWER THAN 'FOR EVERY INPUT', by the rows' own cells (each row's printed sentence says how): FnExactEqualImages: loops · FnExactValueOf: loops · FnExactIsImage: loops · FnExactStackDepths: loops · FnExactIsObject: loops.
  DERIVED. THE GIVEN ROWS OF THIS SEAT. 9 by the template 'for every input the law returns true; each argument reads behind the call as it read before'; 0 by the template 'total and deterministic' (their statements: YtiecdekmiabmkaaTotals.lean).
  GIVEN WITH THE SEED: the statements are not yours to turn. If you find one false, say at which input.
  Laid BY PROGRAM, IN A SANDBOX (cutbox-rows.mjs): the forced cells as the released guide's own fill.sh prints them over the translation 851a643296f5cb2d… (all of the seat's roots in one cut). By AI agents, Wed Nov 11 2026. No macro, syntax, notation, axiom, sorry.
-/
import Derived.Test.YtiecdekmiabmkaaChecked
import GoSem.Claim
import GoSem.ClaimJoined
import GoSem.ClaimMapViews
import Derived.JoinedTies
import Derived.KernelRfl
namespace Go.Proofs.Ytiecdekmiabmkaa
/- THE CELL 'sum', in the pinned program and in every row, IS THE sha256 OF THE DUMP (.gsa) THAT YtiecdekmiabmkaaProg.lean LOADS. Nothing in Lean hashes anything: it is a label: what it is worth is what the hold of that sum in a sandbox is worth. -/
noncomputable def Try.pinned : Pinned := { name := "ytiecdekmiabmkaa", sum := "851a643296f5cb2d59574e52f8d57cbfaba1dd43b37b119aff86a7630ffa63e9", checked := Try.checked }
namespace Rows
def none {H : Type} : Left H := { results := [], args := [] }

/-- 'laws.FnPrimitives': WHATEVER THE INPUT: true; the input reads as it did. -/
def fnPrimitivesSpec : ChangeSpec := { name := "fnPrimitives", fn := fun _ => fun
  | [d] => { results := [.lit (.bool true)], args := [d] }
  | _ => none }
def fnPrimitivesRow : OpenClaim := { program := "ytiecdekmiabmkaa", sum := "851a643296f5cb2d59574e52f8d57cbfaba1dd43b37b119aff86a7630ffa63e9", func := "loop.example/g03220/laws.FnPrimitives", spec := "fnPrimitives", apart := false }
def FnPrimitivesSaid : Prop := fnPrimitivesRow.holds Try.pinned (OpenSpec.ofChange fnPrimitivesSpec)

/-- ITS FALSE NEIGHBOUR: 'it returns false'. Refute it at one input. -/
def fnPrimitivesWrong : ChangeSpec := { name := "fnPrimitives", fn := fun _ => fun
  | [d] => { results := [.lit (.bool false)], args := [d] }
  | _ => none }
def FnPrimitivesWrongFalsely : Prop := fnPrimitivesRow.holds Try.pinned (OpenSpec.ofChange fnPrimitivesWrong)

/-- 'laws.FnExactArePairs': WHATEVER THE INPUT: true; the input reads as it did. -/
def fnExactArePairsSpec : ChangeSpec := { name := "fnExactArePairs", fn := fun _ => fun
  | [d] => { results := [.lit (.bool true)], args := [d] }
  | _ => none }
def fnExactArePairsRow : OpenClaim := { program := "ytiecdekmiabmkaa", sum := "851a643296f5cb2d59574e52f8d57cbfaba1dd43b37b119aff86a7630ffa63e9", func := "loop.example/g03220/laws.FnExactArePairs", spec := "fnExactArePairs", apart := false }
def FnExactArePairsSaid : Prop := fnExactArePairsRow.holds Try.pinned (OpenSpec.ofChange fnExactArePairsSpec)

/-- ITS FALSE NEIGHBOUR: 'it returns false'. Refute it at one input. -/
def fnExactArePairsWrong : ChangeSpec := { name := "fnExactArePairs", fn := fun _ => fun
  | [d] => { results := [.lit (.bool false)], args := [d] }
  | _ => none }
def FnExactArePairsWrongFalsely : Prop := fnExactArePairsRow.holds Try.pinned (OpenSpec.ofChange fnExactArePairsWrong)

/-- 'laws.FnExactIsValue': WHATEVER THE INPUT: true; the input reads as it did. -/
def fnExactIsValueSpec : ChangeSpec := { name := "fnExactIsValue", fn := fun _ => fun
  | [d1, d2] => { results := [.lit (.bool true)], args := [d1, d2] }
  | _ => none }
def fnExactIsValueRow : OpenClaim := { program := "ytiecdekmiabmkaa", sum := "851a643296f5cb2d59574e52f8d57cbfaba1dd43b37b119aff86a7630ffa63e9", func := "loop.example/g03220/laws.FnExactIsValue", spec := "fnExactIsValue", apart := false }
def FnExactIsValueSaid : Prop := fnExactIsValueRow.holds Try.pinned (OpenSpec.ofChange fnExactIsValueSpec)

/-- ITS FALSE NEIGHBOUR: 'it returns false'. Refute it at one input. -/
def fnExactIsValueWrong : ChangeSpec := { name := "fnExactIsValue", fn := fun _ => fun
  | [d1, d2] => { results := [.lit (.bool false)], args := [d1, d2] }
  | _ => none }
def FnExactIsValueWrongFalsely : Prop := fnExactIsValueRow.holds Try.pinned (OpenSpec.ofChange fnExactIsValueWrong)

/-- 'laws.FnExactEqualImages': WHATEVER THE INPUT: true; the input reads as it did. -/
def fnExactEqualImagesSpec : ChangeSpec := { name := "fnExactEqualImages", fn := fun _ => fun
  | [d1, d2] => { results := [.lit (.bool true)], args := [d1, d2] }
  | _ => none }
def fnExactEqualImagesRow : OpenClaim := { program := "ytiecdekmiabmkaa", sum := "851a643296f5cb2d59574e52f8d57cbfaba1dd43b37b119aff86a7630ffa63e9", func := "loop.example/g03220/laws.FnExactEqualImages", spec := "fnExactEqualImages", recurses := true, loops := true, apart := false }
def FnExactEqualImagesSaid : Prop := fnExactEqualImagesRow.holds Try.pinned (OpenSpec.ofChange fnExactEqualImagesSpec)

/-- ITS FALSE NEIGHBOUR: 'it returns false'. Refute it at one input. -/
def fnExactEqualImagesWrong : ChangeSpec := { name := "fnExactEqualImages", fn := fun _ => fun
  | [d1, d2] => { results := [.lit (.bool false)], args := [d1, d2] }
  | _ => none }
def FnExactEqualImagesWrongFalsely : Prop := fnExactEqualImagesRow.holds Try.pinned (OpenSpec.ofChange fnExactEqualImagesWrong)

/-- 'laws.FnExactApplyPrimitive': WHATEVER THE INPUT: true; the input reads as it did. -/
def fnExactApplyPrimitiveSpec : ChangeSpec := { name := "fnExactApplyPrimitive", fn := fun _ => fun
  | [d1, d2, d3] => { results := [.lit (.bool true)], args := [d1, d2, d3] }
  | _ => none }
def fnExactApplyPrimitiveRow : OpenClaim := { program := "ytiecdekmiabmkaa", sum := "851a643296f5cb2d59574e52f8d57cbfaba1dd43b37b119aff86a7630ffa63e9", func := "loop.example/g03220/laws.FnExactApplyPrimitive", spec := "fnExactApplyPrimitive", apart := false }
def FnExactApplyPrimitiveSaid : Prop := fnExactApplyPrimitiveRow.holds Try.pinned (OpenSpec.ofChange fnExactApplyPrimitiveSpec)

/-- ITS FALSE NEIGHBOUR: 'it returns false'. Refute it at one input. -/
def fnExactApplyPrimitiveWrong : ChangeSpec := { name := "fnExactApplyPrimitive", fn := fun _ => fun
  | [d1, d2, d3] => { results := [.lit (.bool false)], args := [d1, d2, d3] }
  | _ => none }
def FnExactApplyPrimitiveWrongFalsely : Prop := fnExactApplyPrimitiveRow.holds Try.pinned (OpenSpec.ofChange fnExactApplyPrimitiveWrong)

/-- 'laws.FnExactValueOf': WHATEVER THE INPUT: true; the input reads as it did. -/
def fnExactValueOfSpec : ChangeSpec := { name := "fnExactValueOf", fn := fun _ => fun
  | [d1, d2] => { results := [.lit (.bool true)], args := [d1, d2] }
  | _ => none }
def fnExactValueOfRow : OpenClaim := { program := "ytiecdekmiabmkaa", sum := "851a643296f5cb2d59574e52f8d57cbfaba1dd43b37b119aff86a7630ffa63e9", func := "loop.example/g03220/laws.FnExactValueOf", spec := "fnExactValueOf", recurses := true, loops := true, apart := false }
def FnExactValueOfSaid : Prop := fnExactValueOfRow.holds Try.pinned (OpenSpec.ofChange fnExactValueOfSpec)

/-- ITS FALSE NEIGHBOUR: 'it returns false'. Refute it at one input. -/
def fnExactValueOfWrong : ChangeSpec := { name := "fnExactValueOf", fn := fun _ => fun
  | [d1, d2] => { results := [.lit (.bool false)], args := [d1, d2] }
  | _ => none }
def FnExactValueOfWrongFalsely : Prop := fnExactValueOfRow.holds Try.pinned (OpenSpec.ofChange fnExactValueOfWrong)

/-- 'laws.FnExactIsImage': WHATEVER THE INPUT: true; the input reads as it did. -/
def fnExactIsImageSpec : ChangeSpec := { name := "fnExactIsImage", fn := fun _ => fun
  | [d1, d2] => { results := [.lit (.bool true)], args := [d1, d2] }
  | _ => none }
def fnExactIsImageRow : OpenClaim := { program := "ytiecdekmiabmkaa", sum := "851a643296f5cb2d59574e52f8d57cbfaba1dd43b37b119aff86a7630ffa63e9", func := "loop.example/g03220/laws.FnExactIsImage", spec := "fnExactIsImage", recurses := true, loops := true, apart := false }
def FnExactIsImageSaid : Prop := fnExactIsImageRow.holds Try.pinned (OpenSpec.ofChange fnExactIsImageSpec)

/-- ITS FALSE NEIGHBOUR: 'it returns false'. Refute it at one input. -/
def fnExactIsImageWrong : ChangeSpec := { name := "fnExactIsImage", fn := fun _ => fun
  | [d1, d2] => { results := [.lit (.bool false)], args := [d1, d2] }
  | _ => none }
def FnExactIsImageWrongFalsely : Prop := fnExactIsImageRow.holds Try.pinned (OpenSpec.ofChange fnExactIsImageWrong)

/-- 'laws.FnExactStackDepths': WHATEVER THE INPUT: true; the input reads as it did. -/
def fnExactStackDepthsSpec : ChangeSpec := { name := "fnExactStackDepths", fn := fun _ => fun
  | [d1, d2] => { results := [.lit (.bool true)], args := [d1, d2] }
  | _ => none }
def fnExactStackDepthsRow : OpenClaim := { program := "ytiecdekmiabmkaa", sum := "851a643296f5cb2d59574e52f8d57cbfaba1dd43b37b119aff86a7630ffa63e9", func := "loop.example/g03220/laws.FnExactStackDepths", spec := "fnExactStackDepths", recurses := true, loops := true, apart := false }
def FnExactStackDepthsSaid : Prop := fnExactStackDepthsRow.holds Try.pinned (OpenSpec.ofChange fnExactStackDepthsSpec)

/-- ITS FALSE NEIGHBOUR: 'it returns false'. Refute it at one input. -/
def fnExactStackDepthsWrong : ChangeSpec := { name := "fnExactStackDepths", fn := fun _ => fun
  | [d1, d2] => { results := [.lit (.bool false)], args := [d1, d2] }
  | _ => none }
def FnExactStackDepthsWrongFalsely : Prop := fnExactStackDepthsRow.holds Try.pinned (OpenSpec.ofChange fnExactStackDepthsWrong)

/-- 'laws.FnExactIsObject': WHATEVER THE INPUT: true; the input reads as it did. -/
def fnExactIsObjectSpec : ChangeSpec := { name := "fnExactIsObject", fn := fun _ => fun
  | [d] => { results := [.lit (.bool true)], args := [d] }
  | _ => none }
def fnExactIsObjectRow : OpenClaim := { program := "ytiecdekmiabmkaa", sum := "851a643296f5cb2d59574e52f8d57cbfaba1dd43b37b119aff86a7630ffa63e9", func := "loop.example/g03220/laws.FnExactIsObject", spec := "fnExactIsObject", recurses := true, loops := true, apart := false }
def FnExactIsObjectSaid : Prop := fnExactIsObjectRow.holds Try.pinned (OpenSpec.ofChange fnExactIsObjectSpec)

/-- ITS FALSE NEIGHBOUR: 'it returns false'. Refute it at one input. -/
def fnExactIsObjectWrong : ChangeSpec := { name := "fnExactIsObject", fn := fun _ => fun
  | [d] => { results := [.lit (.bool false)], args := [d] }
  | _ => none }
def FnExactIsObjectWrongFalsely : Prop := fnExactIsObjectRow.holds Try.pinned (OpenSpec.ofChange fnExactIsObjectWrong)

/- THE SECOND FORM. 'bulk': how many values and letters a reading holds, each counted each time it is reached (what is shared counts as often as it is met; a slice's spare places count too). A statement '..UptoSaid' is the law's where the arguments, and the package variables that the reading takes, are together of bulk at most 1048576: NARROWER than '..Said'. Prove '..Said' where nothing that the law and all that it calls make is longer than what came in: it says more and counts as full. Else prove '..UptoSaid'. A law counts once. -/
mutual
def uptoBulk {H : Type} : DataW H → Nat
  | .lit (.string bytes) => bytes.length + 1
  | .lit _ => 1
  | .nil => 1
  | .ptr d => uptoBulk d + 1
  | .slice elems spare => uptoBulkAll elems + uptoBulkAll spare + 1
  | .agg parts => uptoBulkAll parts + 1
  | .iface _ d => uptoBulk d + 1
  | .map entries => uptoBulkEntries entries + 1
  | .held _ => 1
def uptoBulkAll {H : Type} : List (DataW H) → Nat
  | [] => 0
  | d :: r => uptoBulk d + uptoBulkAll r
def uptoBulkEntries {H : Type} : List (Lit × DataW H) → Nat
  | [] => 0
  | x :: r => uptoBulkEntry x + uptoBulkEntries r
def uptoBulkEntry {H : Type} : Lit × DataW H → Nat
  | (.string bytes, d) => bytes.length + uptoBulk d + 1
  | (_, d) => uptoBulk d + 1
 end
def uptoSmall : (H : Type) → List (DataW H) → Bool := fun _ ds => decide (uptoBulkAll ds ≤ 1048576)
def OpenSpec.upto (s : _root_.Go.ChangeSpec) : _root_.Go.OpenSpec := { _root_.Go.OpenSpec.ofChange s with cond := some uptoSmall }

/-- 'laws.FnPrimitives', WHERE WHAT IT READS IS OF BULK AT MOST 1048576: true; the input reads as it did. -/
def fnPrimitivesUptoRow : OpenClaim := { program := "ytiecdekmiabmkaa", sum := "851a643296f5cb2d59574e52f8d57cbfaba1dd43b37b119aff86a7630ffa63e9", func := "loop.example/g03220/laws.FnPrimitives", spec := "fnPrimitives", apart := false, narrowed := true }
def FnPrimitivesUptoSaid : Prop := fnPrimitivesUptoRow.holds Try.pinned (OpenSpec.upto fnPrimitivesSpec)

/-- 'laws.FnExactArePairs', WHERE WHAT IT READS IS OF BULK AT MOST 1048576: true; the input reads as it did. -/
def fnExactArePairsUptoRow : OpenClaim := { program := "ytiecdekmiabmkaa", sum := "851a643296f5cb2d59574e52f8d57cbfaba1dd43b37b119aff86a7630ffa63e9", func := "loop.example/g03220/laws.FnExactArePairs", spec := "fnExactArePairs", apart := false, narrowed := true }
def FnExactArePairsUptoSaid : Prop := fnExactArePairsUptoRow.holds Try.pinned (OpenSpec.upto fnExactArePairsSpec)

/-- 'laws.FnExactIsValue', WHERE WHAT IT READS IS OF BULK AT MOST 1048576: true; the input reads as it did. -/
def fnExactIsValueUptoRow : OpenClaim := { program := "ytiecdekmiabmkaa", sum := "851a643296f5cb2d59574e52f8d57cbfaba1dd43b37b119aff86a7630ffa63e9", func := "loop.example/g03220/laws.FnExactIsValue", spec := "fnExactIsValue", apart := false, narrowed := true }
def FnExactIsValueUptoSaid : Prop := fnExactIsValueUptoRow.holds Try.pinned (OpenSpec.upto fnExactIsValueSpec)

/-- 'laws.FnExactEqualImages', WHERE WHAT IT READS IS OF BULK AT MOST 1048576: true; the input reads as it did. -/
def fnExactEqualImagesUptoRow : OpenClaim := { program := "ytiecdekmiabmkaa", sum := "851a643296f5cb2d59574e52f8d57cbfaba1dd43b37b119aff86a7630ffa63e9", func := "loop.example/g03220/laws.FnExactEqualImages", spec := "fnExactEqualImages", recurses := true, loops := true, apart := false, narrowed := true }
def FnExactEqualImagesUptoSaid : Prop := fnExactEqualImagesUptoRow.holds Try.pinned (OpenSpec.upto fnExactEqualImagesSpec)

/-- 'laws.FnExactApplyPrimitive', WHERE WHAT IT READS IS OF BULK AT MOST 1048576: true; the input reads as it did. -/
def fnExactApplyPrimitiveUptoRow : OpenClaim := { program := "ytiecdekmiabmkaa", sum := "851a643296f5cb2d59574e52f8d57cbfaba1dd43b37b119aff86a7630ffa63e9", func := "loop.example/g03220/laws.FnExactApplyPrimitive", spec := "fnExactApplyPrimitive", apart := false, narrowed := true }
def FnExactApplyPrimitiveUptoSaid : Prop := fnExactApplyPrimitiveUptoRow.holds Try.pinned (OpenSpec.upto fnExactApplyPrimitiveSpec)

/-- 'laws.FnExactValueOf', WHERE WHAT IT READS IS OF BULK AT MOST 1048576: true; the input reads as it did. -/
def fnExactValueOfUptoRow : OpenClaim := { program := "ytiecdekmiabmkaa", sum := "851a643296f5cb2d59574e52f8d57cbfaba1dd43b37b119aff86a7630ffa63e9", func := "loop.example/g03220/laws.FnExactValueOf", spec := "fnExactValueOf", recurses := true, loops := true, apart := false, narrowed := true }
def FnExactValueOfUptoSaid : Prop := fnExactValueOfUptoRow.holds Try.pinned (OpenSpec.upto fnExactValueOfSpec)

/-- 'laws.FnExactIsImage', WHERE WHAT IT READS IS OF BULK AT MOST 1048576: true; the input reads as it did. -/
def fnExactIsImageUptoRow : OpenClaim := { program := "ytiecdekmiabmkaa", sum := "851a643296f5cb2d59574e52f8d57cbfaba1dd43b37b119aff86a7630ffa63e9", func := "loop.example/g03220/laws.FnExactIsImage", spec := "fnExactIsImage", recurses := true, loops := true, apart := false, narrowed := true }
def FnExactIsImageUptoSaid : Prop := fnExactIsImageUptoRow.holds Try.pinned (OpenSpec.upto fnExactIsImageSpec)

/-- 'laws.FnExactStackDepths', WHERE WHAT IT READS IS OF BULK AT MOST 1048576: true; the input reads as it did. -/
def fnExactStackDepthsUptoRow : OpenClaim := { program := "ytiecdekmiabmkaa", sum := "851a643296f5cb2d59574e52f8d57cbfaba1dd43b37b119aff86a7630ffa63e9", func := "loop.example/g03220/laws.FnExactStackDepths", spec := "fnExactStackDepths", recurses := true, loops := true, apart := false, narrowed := true }
def FnExactStackDepthsUptoSaid : Prop := fnExactStackDepthsUptoRow.holds Try.pinned (OpenSpec.upto fnExactStackDepthsSpec)

/-- 'laws.FnExactIsObject', WHERE WHAT IT READS IS OF BULK AT MOST 1048576: true; the input reads as it did. -/
def fnExactIsObjectUptoRow : OpenClaim := { program := "ytiecdekmiabmkaa", sum := "851a643296f5cb2d59574e52f8d57cbfaba1dd43b37b119aff86a7630ffa63e9", func := "loop.example/g03220/laws.FnExactIsObject", spec := "fnExactIsObject", recurses := true, loops := true, apart := false, narrowed := true }
def FnExactIsObjectUptoSaid : Prop := fnExactIsObjectUptoRow.holds Try.pinned (OpenSpec.upto fnExactIsObjectSpec)

end Rows
end Go.Proofs.Ytiecdekmiabmkaa
