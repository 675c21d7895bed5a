/-
  NARROWER THAN 'FOR EVERY INPUT', by the rows' own cells (each row's printed sentence says how): FnLoops: laid · FnPrivate: laid · FnAborted: laid · FnLiterals: laid · FnManyShots: laid · FnShadowed: laid · FnCapture: laid · FnRecursion: laid.
  DERIVED. THE GIVEN ROWS OF THIS SEAT. 8 by the template 'for every input the law returns true; each argument reads behind the call as it read before'; 0 by the template 'total and deterministic' (their statements: YtbdmleibanpfnaaGreatDoorTotals.lean).
  GIVEN WITH THE SEED: the statements are not yours to turn. If you find one false, say at which input.
  Laid BY PROGRAM, IN A SANDBOX (cutbox-rows.mjs): the forced cells as the released guide's own fill.sh prints them over the translation 2c66ef86b90cd1c6… (all of the seat's roots in one cut). By AI agents, Wed Nov 11 2026. No macro, syntax, notation, axiom, sorry.
-/
import Derived.Test.YtbdmleibanpfnaaGreatDoorChecked
import GoSem.Claim
import GoSem.ClaimJoined
import GoSem.ClaimMapViews
import Derived.JoinedTies
import Derived.KernelRfl
namespace Go.Proofs.YtbdmleibanpfnaaGreatDoor
/- THE CELL 'sum', in the pinned program and in every row, IS THE sha256 OF THE DUMP (.gsa) THAT YtbdmleibanpfnaaGreatDoorProg.lean LOADS. Nothing in Lean hashes anything: it is a label: what it is worth is what the hold of that sum in a sandbox is worth. -/
noncomputable def Tryz.pinned : Pinned := { name := "ytbdmleibanpfnaagreatdoor", sum := "2c66ef86b90cd1c6c02baa922308501338186dbc24db19a82218c886da92c667", checked := Tryz.checked }
namespace Rows
def none {H : Type} : Left H := { results := [], args := [] }

/- WHAT THE LISTED PACKAGE-LEVEL VARIABLES READ AS WHEN THE CALL BEGINS. Each datum BY PROGRAM (the guide's laid-datum.mjs) off the statement by which the dump's own 'gosem.cut.vars' lays the variable. In a bare row this is a premise. The card (YtbdmleibanpfnaaGreatDoorCards.lean) ties it to the program's text. -/
def laid_math_bits_deBruijn32tab {H : Type} : DataW H := .agg [.lit (.int .u8 0), .lit (.int .u8 1), .lit (.int .u8 28), .lit (.int .u8 2), .lit (.int .u8 29), .lit (.int .u8 14), .lit (.int .u8 24), .lit (.int .u8 3), .lit (.int .u8 30), .lit (.int .u8 22), .lit (.int .u8 20), .lit (.int .u8 15), .lit (.int .u8 25), .lit (.int .u8 17), .lit (.int .u8 4), .lit (.int .u8 8), .lit (.int .u8 31), .lit (.int .u8 27), .lit (.int .u8 13), .lit (.int .u8 23), .lit (.int .u8 21), .lit (.int .u8 19), .lit (.int .u8 16), .lit (.int .u8 7), .lit (.int .u8 26), .lit (.int .u8 12), .lit (.int .u8 18), .lit (.int .u8 6), .lit (.int .u8 11), .lit (.int .u8 5), .lit (.int .u8 10), .lit (.int .u8 9)]
def laid_math_bits_deBruijn64tab {H : Type} : DataW H := .agg [.lit (.int .u8 0), .lit (.int .u8 1), .lit (.int .u8 56), .lit (.int .u8 2), .lit (.int .u8 57), .lit (.int .u8 49), .lit (.int .u8 28), .lit (.int .u8 3), .lit (.int .u8 61), .lit (.int .u8 58), .lit (.int .u8 42), .lit (.int .u8 50), .lit (.int .u8 38), .lit (.int .u8 29), .lit (.int .u8 17), .lit (.int .u8 4), .lit (.int .u8 62), .lit (.int .u8 47), .lit (.int .u8 59), .lit (.int .u8 36), .lit (.int .u8 45), .lit (.int .u8 43), .lit (.int .u8 51), .lit (.int .u8 22), .lit (.int .u8 53), .lit (.int .u8 39), .lit (.int .u8 33), .lit (.int .u8 30), .lit (.int .u8 24), .lit (.int .u8 18), .lit (.int .u8 12), .lit (.int .u8 5), .lit (.int .u8 63), .lit (.int .u8 55), .lit (.int .u8 48), .lit (.int .u8 27), .lit (.int .u8 60), .lit (.int .u8 41), .lit (.int .u8 37), .lit (.int .u8 16), .lit (.int .u8 46), .lit (.int .u8 35), .lit (.int .u8 44), .lit (.int .u8 21), .lit (.int .u8 52), .lit (.int .u8 32), .lit (.int .u8 23), .lit (.int .u8 11), .lit (.int .u8 54), .lit (.int .u8 26), .lit (.int .u8 40), .lit (.int .u8 15), .lit (.int .u8 34), .lit (.int .u8 20), .lit (.int .u8 31), .lit (.int .u8 10), .lit (.int .u8 25), .lit (.int .u8 14), .lit (.int .u8 19), .lit (.int .u8 9), .lit (.int .u8 13), .lit (.int .u8 8), .lit (.int .u8 7), .lit (.int .u8 6)]
def laid_internal_strconv_uint64pow10 {H : Type} : DataW H := .agg [.lit (.int .u64 1), .lit (.int .u64 10), .lit (.int .u64 100), .lit (.int .u64 1000), .lit (.int .u64 10000), .lit (.int .u64 100000), .lit (.int .u64 1000000), .lit (.int .u64 10000000), .lit (.int .u64 100000000), .lit (.int .u64 1000000000), .lit (.int .u64 10000000000), .lit (.int .u64 100000000000), .lit (.int .u64 1000000000000), .lit (.int .u64 10000000000000), .lit (.int .u64 100000000000000), .lit (.int .u64 1000000000000000), .lit (.int .u64 10000000000000000), .lit (.int .u64 100000000000000000), .lit (.int .u64 1000000000000000000), .lit (.int .u64 10000000000000000000)]
def laid_loop_example_g03220_impl_opNames {H : Type} : DataW H := .agg [.lit (.string [99, 111, 110, 115, 116, 97, 110, 116]), .lit (.string [112, 114, 105, 109, 105, 116, 105, 118, 101]), .lit (.string [108, 111, 99, 97, 108]), .lit (.string [99, 97, 112, 116, 117, 114, 101, 100]), .lit (.string [114, 101, 97, 100, 45, 108, 111, 99, 97, 108]), .lit (.string [114, 101, 97, 100, 45, 98, 111, 120]), .lit (.string [119, 114, 105, 116, 101, 45, 108, 111, 99, 97, 108]), .lit (.string [119, 114, 105, 116, 101, 45, 98, 111, 120]), .lit (.string [110, 101, 119, 45, 98, 111, 120]), .lit (.string [98, 111, 120, 45, 112, 97, 114, 97, 109]), .lit (.string [99, 108, 111, 115, 117, 114, 101]), .lit (.string [99, 97, 108, 108]), .lit (.string [116, 97, 105, 108, 45, 99, 97, 108, 108]), .lit (.string [114, 101, 116, 117, 114, 110]), .lit (.string [106, 117, 109, 112]), .lit (.string [106, 117, 109, 112, 45, 105, 102, 45, 102, 97, 108, 115, 101]), .lit (.string [112, 111, 112]), .lit (.string [114, 101, 115, 101, 116]), .lit (.string [115, 104, 105, 102, 116]), .lit (.string [101, 110, 116, 101, 114])]
def laid_strconv_ErrRange {H : Type} : DataW H := .iface "*errors.errorString" (.ptr (.agg [.lit (.string [118, 97, 108, 117, 101, 32, 111, 117, 116, 32, 111, 102, 32, 114, 97, 110, 103, 101])]))
def laid_strconv_ErrSyntax {H : Type} : DataW H := .iface "*errors.errorString" (.ptr (.agg [.lit (.string [105, 110, 118, 97, 108, 105, 100, 32, 115, 121, 110, 116, 97, 120])]))

/-- 'laws.FnLoops': WHATEVER THE INPUT: true; the input reads as it did. -/
def fnLoopsSpec : ChangeSpec := { name := "fnLoops", vars := ["loop.example/g03220/impl.opNames"], fn := fun _ => fun
  | [d, g1] => { results := [.lit (.bool true)], args := [d], vars := [g1] }
  | _ => none }
def fnLoopsRow : OpenClaim := { program := "ytbdmleibanpfnaagreatdoor", sum := "2c66ef86b90cd1c6c02baa922308501338186dbc24db19a82218c886da92c667", func := "loop.example/g03220/laws.FnLoops", spec := "fnLoops", recurses := true, named := ["internal/strconv.uint64pow10", "math/bits.deBruijn32tab", "math/bits.deBruijn64tab", "loop.example/g03220/impl.opNames"], plainKeys := false, apart := false, laid := [("math/bits.deBruijn32tab", laid_math_bits_deBruijn32tab), ("math/bits.deBruijn64tab", laid_math_bits_deBruijn64tab), ("internal/strconv.uint64pow10", laid_internal_strconv_uint64pow10), ("loop.example/g03220/impl.opNames", laid_loop_example_g03220_impl_opNames)] }
def FnLoopsSaid : Prop := fnLoopsRow.holds Tryz.pinned (OpenSpec.ofChange fnLoopsSpec)

/-- ITS FALSE NEIGHBOUR: 'it returns false'. Refute it at one input. -/
def fnLoopsWrong : ChangeSpec := { name := "fnLoops", vars := ["loop.example/g03220/impl.opNames"], fn := fun _ => fun
  | [d, g1] => { results := [.lit (.bool false)], args := [d], vars := [g1] }
  | _ => none }
def FnLoopsWrongFalsely : Prop := fnLoopsRow.holds Tryz.pinned (OpenSpec.ofChange fnLoopsWrong)

/-- 'laws.FnPrivate': WHATEVER THE INPUT: true; the input reads as it did. -/
def fnPrivateSpec : ChangeSpec := { name := "fnPrivate", fn := fun _ => fun
  | [d] => { results := [.lit (.bool true)], args := [d] }
  | _ => none }
def fnPrivateRow : OpenClaim := { program := "ytbdmleibanpfnaagreatdoor", sum := "2c66ef86b90cd1c6c02baa922308501338186dbc24db19a82218c886da92c667", func := "loop.example/g03220/laws.FnPrivate", spec := "fnPrivate", inPlace := ["internal/abi.NoEscape", "internal/bytealg.MakeNoZero"], unfollowed := true, recurses := true, named := ["internal/strconv.uint64pow10", "math/bits.deBruijn32tab", "math/bits.deBruijn64tab", "strconv.ErrSyntax", "strconv.ErrRange"], plainKeys := false, apart := false, laid := [("math/bits.deBruijn32tab", laid_math_bits_deBruijn32tab), ("math/bits.deBruijn64tab", laid_math_bits_deBruijn64tab), ("internal/strconv.uint64pow10", laid_internal_strconv_uint64pow10), ("strconv.ErrRange", laid_strconv_ErrRange), ("strconv.ErrSyntax", laid_strconv_ErrSyntax)] }
def FnPrivateSaid : Prop := fnPrivateRow.holds Tryz.pinned (OpenSpec.ofChange fnPrivateSpec)

/-- ITS FALSE NEIGHBOUR: 'it returns false'. Refute it at one input. -/
def fnPrivateWrong : ChangeSpec := { name := "fnPrivate", fn := fun _ => fun
  | [d] => { results := [.lit (.bool false)], args := [d] }
  | _ => none }
def FnPrivateWrongFalsely : Prop := fnPrivateRow.holds Tryz.pinned (OpenSpec.ofChange fnPrivateWrong)

/-- 'laws.FnAborted': WHATEVER THE INPUT: true; the input reads as it did. -/
def fnAbortedSpec : ChangeSpec := { name := "fnAborted", vars := ["loop.example/g03220/impl.opNames"], fn := fun _ => fun
  | [d, g1] => { results := [.lit (.bool true)], args := [d], vars := [g1] }
  | _ => none }
def fnAbortedRow : OpenClaim := { program := "ytbdmleibanpfnaagreatdoor", sum := "2c66ef86b90cd1c6c02baa922308501338186dbc24db19a82218c886da92c667", func := "loop.example/g03220/laws.FnAborted", spec := "fnAborted", unfollowed := true, recurses := true, named := ["internal/strconv.uint64pow10", "math/bits.deBruijn32tab", "math/bits.deBruijn64tab", "loop.example/g03220/impl.opNames"], plainKeys := false, apart := false, laid := [("math/bits.deBruijn32tab", laid_math_bits_deBruijn32tab), ("math/bits.deBruijn64tab", laid_math_bits_deBruijn64tab), ("internal/strconv.uint64pow10", laid_internal_strconv_uint64pow10), ("loop.example/g03220/impl.opNames", laid_loop_example_g03220_impl_opNames)] }
def FnAbortedSaid : Prop := fnAbortedRow.holds Tryz.pinned (OpenSpec.ofChange fnAbortedSpec)

/-- ITS FALSE NEIGHBOUR: 'it returns false'. Refute it at one input. -/
def fnAbortedWrong : ChangeSpec := { name := "fnAborted", vars := ["loop.example/g03220/impl.opNames"], fn := fun _ => fun
  | [d, g1] => { results := [.lit (.bool false)], args := [d], vars := [g1] }
  | _ => none }
def FnAbortedWrongFalsely : Prop := fnAbortedRow.holds Tryz.pinned (OpenSpec.ofChange fnAbortedWrong)

/-- 'laws.FnLiterals': WHATEVER THE INPUT: true; the input reads as it did. -/
def fnLiteralsSpec : ChangeSpec := { name := "fnLiterals", vars := ["loop.example/g03220/impl.opNames"], fn := fun _ => fun
  | [d, g1] => { results := [.lit (.bool true)], args := [d], vars := [g1] }
  | _ => none }
def fnLiteralsRow : OpenClaim := { program := "ytbdmleibanpfnaagreatdoor", sum := "2c66ef86b90cd1c6c02baa922308501338186dbc24db19a82218c886da92c667", func := "loop.example/g03220/laws.FnLiterals", spec := "fnLiterals", unfollowed := true, recurses := true, named := ["internal/strconv.uint64pow10", "math/bits.deBruijn32tab", "math/bits.deBruijn64tab", "loop.example/g03220/impl.opNames"], plainKeys := false, apart := false, laid := [("math/bits.deBruijn32tab", laid_math_bits_deBruijn32tab), ("math/bits.deBruijn64tab", laid_math_bits_deBruijn64tab), ("internal/strconv.uint64pow10", laid_internal_strconv_uint64pow10), ("loop.example/g03220/impl.opNames", laid_loop_example_g03220_impl_opNames)] }
def FnLiteralsSaid : Prop := fnLiteralsRow.holds Tryz.pinned (OpenSpec.ofChange fnLiteralsSpec)

/-- ITS FALSE NEIGHBOUR: 'it returns false'. Refute it at one input. -/
def fnLiteralsWrong : ChangeSpec := { name := "fnLiterals", vars := ["loop.example/g03220/impl.opNames"], fn := fun _ => fun
  | [d, g1] => { results := [.lit (.bool false)], args := [d], vars := [g1] }
  | _ => none }
def FnLiteralsWrongFalsely : Prop := fnLiteralsRow.holds Tryz.pinned (OpenSpec.ofChange fnLiteralsWrong)

/-- 'laws.FnManyShots': WHATEVER THE INPUT: true; the input reads as it did. -/
def fnManyShotsSpec : ChangeSpec := { name := "fnManyShots", vars := ["loop.example/g03220/impl.opNames"], fn := fun _ => fun
  | [d, g1] => { results := [.lit (.bool true)], args := [d], vars := [g1] }
  | _ => none }
def fnManyShotsRow : OpenClaim := { program := "ytbdmleibanpfnaagreatdoor", sum := "2c66ef86b90cd1c6c02baa922308501338186dbc24db19a82218c886da92c667", func := "loop.example/g03220/laws.FnManyShots", spec := "fnManyShots", unfollowed := true, recurses := true, named := ["internal/strconv.uint64pow10", "math/bits.deBruijn32tab", "math/bits.deBruijn64tab", "loop.example/g03220/impl.opNames"], plainKeys := false, apart := false, laid := [("math/bits.deBruijn32tab", laid_math_bits_deBruijn32tab), ("math/bits.deBruijn64tab", laid_math_bits_deBruijn64tab), ("internal/strconv.uint64pow10", laid_internal_strconv_uint64pow10), ("loop.example/g03220/impl.opNames", laid_loop_example_g03220_impl_opNames)] }
def FnManyShotsSaid : Prop := fnManyShotsRow.holds Tryz.pinned (OpenSpec.ofChange fnManyShotsSpec)

/-- ITS FALSE NEIGHBOUR: 'it returns false'. Refute it at one input. -/
def fnManyShotsWrong : ChangeSpec := { name := "fnManyShots", vars := ["loop.example/g03220/impl.opNames"], fn := fun _ => fun
  | [d, g1] => { results := [.lit (.bool false)], args := [d], vars := [g1] }
  | _ => none }
def FnManyShotsWrongFalsely : Prop := fnManyShotsRow.holds Tryz.pinned (OpenSpec.ofChange fnManyShotsWrong)

/-- 'laws.FnShadowed': WHATEVER THE INPUT: true; the input reads as it did. -/
def fnShadowedSpec : ChangeSpec := { name := "fnShadowed", vars := ["loop.example/g03220/impl.opNames"], fn := fun _ => fun
  | [d, g1] => { results := [.lit (.bool true)], args := [d], vars := [g1] }
  | _ => none }
def fnShadowedRow : OpenClaim := { program := "ytbdmleibanpfnaagreatdoor", sum := "2c66ef86b90cd1c6c02baa922308501338186dbc24db19a82218c886da92c667", func := "loop.example/g03220/laws.FnShadowed", spec := "fnShadowed", unfollowed := true, recurses := true, named := ["internal/strconv.uint64pow10", "math/bits.deBruijn32tab", "math/bits.deBruijn64tab", "loop.example/g03220/impl.opNames"], plainKeys := false, apart := false, laid := [("math/bits.deBruijn32tab", laid_math_bits_deBruijn32tab), ("math/bits.deBruijn64tab", laid_math_bits_deBruijn64tab), ("internal/strconv.uint64pow10", laid_internal_strconv_uint64pow10), ("loop.example/g03220/impl.opNames", laid_loop_example_g03220_impl_opNames)] }
def FnShadowedSaid : Prop := fnShadowedRow.holds Tryz.pinned (OpenSpec.ofChange fnShadowedSpec)

/-- ITS FALSE NEIGHBOUR: 'it returns false'. Refute it at one input. -/
def fnShadowedWrong : ChangeSpec := { name := "fnShadowed", vars := ["loop.example/g03220/impl.opNames"], fn := fun _ => fun
  | [d, g1] => { results := [.lit (.bool false)], args := [d], vars := [g1] }
  | _ => none }
def FnShadowedWrongFalsely : Prop := fnShadowedRow.holds Tryz.pinned (OpenSpec.ofChange fnShadowedWrong)

/-- 'laws.FnCapture': WHATEVER THE INPUT: true; the input reads as it did. -/
def fnCaptureSpec : ChangeSpec := { name := "fnCapture", vars := ["loop.example/g03220/impl.opNames"], fn := fun _ => fun
  | [d, g1] => { results := [.lit (.bool true)], args := [d], vars := [g1] }
  | _ => none }
def fnCaptureRow : OpenClaim := { program := "ytbdmleibanpfnaagreatdoor", sum := "2c66ef86b90cd1c6c02baa922308501338186dbc24db19a82218c886da92c667", func := "loop.example/g03220/laws.FnCapture", spec := "fnCapture", unfollowed := true, recurses := true, named := ["internal/strconv.uint64pow10", "math/bits.deBruijn32tab", "math/bits.deBruijn64tab", "loop.example/g03220/impl.opNames"], plainKeys := false, apart := false, laid := [("math/bits.deBruijn32tab", laid_math_bits_deBruijn32tab), ("math/bits.deBruijn64tab", laid_math_bits_deBruijn64tab), ("internal/strconv.uint64pow10", laid_internal_strconv_uint64pow10), ("loop.example/g03220/impl.opNames", laid_loop_example_g03220_impl_opNames)] }
def FnCaptureSaid : Prop := fnCaptureRow.holds Tryz.pinned (OpenSpec.ofChange fnCaptureSpec)

/-- ITS FALSE NEIGHBOUR: 'it returns false'. Refute it at one input. -/
def fnCaptureWrong : ChangeSpec := { name := "fnCapture", vars := ["loop.example/g03220/impl.opNames"], fn := fun _ => fun
  | [d, g1] => { results := [.lit (.bool false)], args := [d], vars := [g1] }
  | _ => none }
def FnCaptureWrongFalsely : Prop := fnCaptureRow.holds Tryz.pinned (OpenSpec.ofChange fnCaptureWrong)

/-- 'laws.FnRecursion': WHATEVER THE INPUT: true; the input reads as it did. -/
def fnRecursionSpec : ChangeSpec := { name := "fnRecursion", vars := ["loop.example/g03220/impl.opNames"], fn := fun _ => fun
  | [d, g1] => { results := [.lit (.bool true)], args := [d], vars := [g1] }
  | _ => none }
def fnRecursionRow : OpenClaim := { program := "ytbdmleibanpfnaagreatdoor", sum := "2c66ef86b90cd1c6c02baa922308501338186dbc24db19a82218c886da92c667", func := "loop.example/g03220/laws.FnRecursion", spec := "fnRecursion", unfollowed := true, recurses := true, named := ["internal/strconv.uint64pow10", "math/bits.deBruijn32tab", "math/bits.deBruijn64tab", "loop.example/g03220/impl.opNames"], plainKeys := false, apart := false, laid := [("math/bits.deBruijn32tab", laid_math_bits_deBruijn32tab), ("math/bits.deBruijn64tab", laid_math_bits_deBruijn64tab), ("internal/strconv.uint64pow10", laid_internal_strconv_uint64pow10), ("loop.example/g03220/impl.opNames", laid_loop_example_g03220_impl_opNames)] }
def FnRecursionSaid : Prop := fnRecursionRow.holds Tryz.pinned (OpenSpec.ofChange fnRecursionSpec)

/-- ITS FALSE NEIGHBOUR: 'it returns false'. Refute it at one input. -/
def fnRecursionWrong : ChangeSpec := { name := "fnRecursion", vars := ["loop.example/g03220/impl.opNames"], fn := fun _ => fun
  | [d, g1] => { results := [.lit (.bool false)], args := [d], vars := [g1] }
  | _ => none }
def FnRecursionWrongFalsely : Prop := fnRecursionRow.holds Tryz.pinned (OpenSpec.ofChange fnRecursionWrong)

/- THE SECOND FORM. 'bulk': how many values and letters a reading holds, each counted each time it is reached (what is shared counts as often as it is met; a slice's spare places count too). A statement '..UptoSaid' is the law's where the arguments, and the package variables that the reading takes, are together of bulk at most 1048576: NARROWER than '..Said'. Prove '..Said' where nothing that the law and all that it calls make is longer than what came in: it says more and counts as full. Else prove '..UptoSaid'. A law counts once. -/
mutual
def uptoBulk {H : Type} : DataW H → Nat
  | .lit (.string bytes) => bytes.length + 1
  | .lit _ => 1
  | .nil => 1
  | .ptr d => uptoBulk d + 1
  | .slice elems spare => uptoBulkAll elems + uptoBulkAll spare + 1
  | .agg parts => uptoBulkAll parts + 1
  | .iface _ d => uptoBulk d + 1
  | .map entries => uptoBulkEntries entries + 1
  | .held _ => 1
def uptoBulkAll {H : Type} : List (DataW H) → Nat
  | [] => 0
  | d :: r => uptoBulk d + uptoBulkAll r
def uptoBulkEntries {H : Type} : List (Lit × DataW H) → Nat
  | [] => 0
  | x :: r => uptoBulkEntry x + uptoBulkEntries r
def uptoBulkEntry {H : Type} : Lit × DataW H → Nat
  | (.string bytes, d) => bytes.length + uptoBulk d + 1
  | (_, d) => uptoBulk d + 1
 end
def uptoSmall : (H : Type) → List (DataW H) → Bool := fun _ ds => decide (uptoBulkAll ds ≤ 1048576)
def OpenSpec.upto (s : _root_.Go.ChangeSpec) : _root_.Go.OpenSpec := { _root_.Go.OpenSpec.ofChange s with cond := some uptoSmall }

/-- 'laws.FnLoops', WHERE WHAT IT READS IS OF BULK AT MOST 1048576: true; the input reads as it did. -/
def fnLoopsUptoRow : OpenClaim := { program := "ytbdmleibanpfnaagreatdoor", sum := "2c66ef86b90cd1c6c02baa922308501338186dbc24db19a82218c886da92c667", func := "loop.example/g03220/laws.FnLoops", spec := "fnLoops", recurses := true, named := ["internal/strconv.uint64pow10", "math/bits.deBruijn32tab", "math/bits.deBruijn64tab", "loop.example/g03220/impl.opNames"], plainKeys := false, apart := false, laid := [("math/bits.deBruijn32tab", laid_math_bits_deBruijn32tab), ("math/bits.deBruijn64tab", laid_math_bits_deBruijn64tab), ("internal/strconv.uint64pow10", laid_internal_strconv_uint64pow10), ("loop.example/g03220/impl.opNames", laid_loop_example_g03220_impl_opNames)], narrowed := true }
def FnLoopsUptoSaid : Prop := fnLoopsUptoRow.holds Tryz.pinned (OpenSpec.upto fnLoopsSpec)

/-- 'laws.FnPrivate', WHERE WHAT IT READS IS OF BULK AT MOST 1048576: true; the input reads as it did. -/
def fnPrivateUptoRow : OpenClaim := { program := "ytbdmleibanpfnaagreatdoor", sum := "2c66ef86b90cd1c6c02baa922308501338186dbc24db19a82218c886da92c667", func := "loop.example/g03220/laws.FnPrivate", spec := "fnPrivate", inPlace := ["internal/abi.NoEscape", "internal/bytealg.MakeNoZero"], unfollowed := true, recurses := true, named := ["internal/strconv.uint64pow10", "math/bits.deBruijn32tab", "math/bits.deBruijn64tab", "strconv.ErrSyntax", "strconv.ErrRange"], plainKeys := false, apart := false, laid := [("math/bits.deBruijn32tab", laid_math_bits_deBruijn32tab), ("math/bits.deBruijn64tab", laid_math_bits_deBruijn64tab), ("internal/strconv.uint64pow10", laid_internal_strconv_uint64pow10), ("strconv.ErrRange", laid_strconv_ErrRange), ("strconv.ErrSyntax", laid_strconv_ErrSyntax)], narrowed := true }
def FnPrivateUptoSaid : Prop := fnPrivateUptoRow.holds Tryz.pinned (OpenSpec.upto fnPrivateSpec)

/-- 'laws.FnAborted', WHERE WHAT IT READS IS OF BULK AT MOST 1048576: true; the input reads as it did. -/
def fnAbortedUptoRow : OpenClaim := { program := "ytbdmleibanpfnaagreatdoor", sum := "2c66ef86b90cd1c6c02baa922308501338186dbc24db19a82218c886da92c667", func := "loop.example/g03220/laws.FnAborted", spec := "fnAborted", unfollowed := true, recurses := true, named := ["internal/strconv.uint64pow10", "math/bits.deBruijn32tab", "math/bits.deBruijn64tab", "loop.example/g03220/impl.opNames"], plainKeys := false, apart := false, laid := [("math/bits.deBruijn32tab", laid_math_bits_deBruijn32tab), ("math/bits.deBruijn64tab", laid_math_bits_deBruijn64tab), ("internal/strconv.uint64pow10", laid_internal_strconv_uint64pow10), ("loop.example/g03220/impl.opNames", laid_loop_example_g03220_impl_opNames)], narrowed := true }
def FnAbortedUptoSaid : Prop := fnAbortedUptoRow.holds Tryz.pinned (OpenSpec.upto fnAbortedSpec)

/-- 'laws.FnLiterals', WHERE WHAT IT READS IS OF BULK AT MOST 1048576: true; the input reads as it did. -/
def fnLiteralsUptoRow : OpenClaim := { program := "ytbdmleibanpfnaagreatdoor", sum := "2c66ef86b90cd1c6c02baa922308501338186dbc24db19a82218c886da92c667", func := "loop.example/g03220/laws.FnLiterals", spec := "fnLiterals", unfollowed := true, recurses := true, named := ["internal/strconv.uint64pow10", "math/bits.deBruijn32tab", "math/bits.deBruijn64tab", "loop.example/g03220/impl.opNames"], plainKeys := false, apart := false, laid := [("math/bits.deBruijn32tab", laid_math_bits_deBruijn32tab), ("math/bits.deBruijn64tab", laid_math_bits_deBruijn64tab), ("internal/strconv.uint64pow10", laid_internal_strconv_uint64pow10), ("loop.example/g03220/impl.opNames", laid_loop_example_g03220_impl_opNames)], narrowed := true }
def FnLiteralsUptoSaid : Prop := fnLiteralsUptoRow.holds Tryz.pinned (OpenSpec.upto fnLiteralsSpec)

/-- 'laws.FnManyShots', WHERE WHAT IT READS IS OF BULK AT MOST 1048576: true; the input reads as it did. -/
def fnManyShotsUptoRow : OpenClaim := { program := "ytbdmleibanpfnaagreatdoor", sum := "2c66ef86b90cd1c6c02baa922308501338186dbc24db19a82218c886da92c667", func := "loop.example/g03220/laws.FnManyShots", spec := "fnManyShots", unfollowed := true, recurses := true, named := ["internal/strconv.uint64pow10", "math/bits.deBruijn32tab", "math/bits.deBruijn64tab", "loop.example/g03220/impl.opNames"], plainKeys := false, apart := false, laid := [("math/bits.deBruijn32tab", laid_math_bits_deBruijn32tab), ("math/bits.deBruijn64tab", laid_math_bits_deBruijn64tab), ("internal/strconv.uint64pow10", laid_internal_strconv_uint64pow10), ("loop.example/g03220/impl.opNames", laid_loop_example_g03220_impl_opNames)], narrowed := true }
def FnManyShotsUptoSaid : Prop := fnManyShotsUptoRow.holds Tryz.pinned (OpenSpec.upto fnManyShotsSpec)

/-- 'laws.FnShadowed', WHERE WHAT IT READS IS OF BULK AT MOST 1048576: true; the input reads as it did. -/
def fnShadowedUptoRow : OpenClaim := { program := "ytbdmleibanpfnaagreatdoor", sum := "2c66ef86b90cd1c6c02baa922308501338186dbc24db19a82218c886da92c667", func := "loop.example/g03220/laws.FnShadowed", spec := "fnShadowed", unfollowed := true, recurses := true, named := ["internal/strconv.uint64pow10", "math/bits.deBruijn32tab", "math/bits.deBruijn64tab", "loop.example/g03220/impl.opNames"], plainKeys := false, apart := false, laid := [("math/bits.deBruijn32tab", laid_math_bits_deBruijn32tab), ("math/bits.deBruijn64tab", laid_math_bits_deBruijn64tab), ("internal/strconv.uint64pow10", laid_internal_strconv_uint64pow10), ("loop.example/g03220/impl.opNames", laid_loop_example_g03220_impl_opNames)], narrowed := true }
def FnShadowedUptoSaid : Prop := fnShadowedUptoRow.holds Tryz.pinned (OpenSpec.upto fnShadowedSpec)

/-- 'laws.FnCapture', WHERE WHAT IT READS IS OF BULK AT MOST 1048576: true; the input reads as it did. -/
def fnCaptureUptoRow : OpenClaim := { program := "ytbdmleibanpfnaagreatdoor", sum := "2c66ef86b90cd1c6c02baa922308501338186dbc24db19a82218c886da92c667", func := "loop.example/g03220/laws.FnCapture", spec := "fnCapture", unfollowed := true, recurses := true, named := ["internal/strconv.uint64pow10", "math/bits.deBruijn32tab", "math/bits.deBruijn64tab", "loop.example/g03220/impl.opNames"], plainKeys := false, apart := false, laid := [("math/bits.deBruijn32tab", laid_math_bits_deBruijn32tab), ("math/bits.deBruijn64tab", laid_math_bits_deBruijn64tab), ("internal/strconv.uint64pow10", laid_internal_strconv_uint64pow10), ("loop.example/g03220/impl.opNames", laid_loop_example_g03220_impl_opNames)], narrowed := true }
def FnCaptureUptoSaid : Prop := fnCaptureUptoRow.holds Tryz.pinned (OpenSpec.upto fnCaptureSpec)

/-- 'laws.FnRecursion', WHERE WHAT IT READS IS OF BULK AT MOST 1048576: true; the input reads as it did. -/
def fnRecursionUptoRow : OpenClaim := { program := "ytbdmleibanpfnaagreatdoor", sum := "2c66ef86b90cd1c6c02baa922308501338186dbc24db19a82218c886da92c667", func := "loop.example/g03220/laws.FnRecursion", spec := "fnRecursion", unfollowed := true, recurses := true, named := ["internal/strconv.uint64pow10", "math/bits.deBruijn32tab", "math/bits.deBruijn64tab", "loop.example/g03220/impl.opNames"], plainKeys := false, apart := false, laid := [("math/bits.deBruijn32tab", laid_math_bits_deBruijn32tab), ("math/bits.deBruijn64tab", laid_math_bits_deBruijn64tab), ("internal/strconv.uint64pow10", laid_internal_strconv_uint64pow10), ("loop.example/g03220/impl.opNames", laid_loop_example_g03220_impl_opNames)], narrowed := true }
def FnRecursionUptoSaid : Prop := fnRecursionUptoRow.holds Tryz.pinned (OpenSpec.upto fnRecursionSpec)

end Rows
end Go.Proofs.YtbdmleibanpfnaaGreatDoor
